import Derived.Test.YtehhjmcdpcilfaaC08a
namespace Go.Proofs.Ytehhjmcdpcilfaa
open Go.RowKit
set_option linter.unusedVariables false
set_option maxRecDepth 4000
def D_c_r8addr_0 : List Tmp := [6, 7, 8, 9, 10, 11, 12, 13, 14, 15, 16, 17, 18, 19]
theorem c_r8addr {x0 x1 : Value} {w : World} {l : List UInt8} {z : Int} (h0 : (Bs l) x0 w) (h1 : (Is (.int .i64 z)) x1 w) (hz0 : 0 ≤ z) (hz1 : z.toNat + 4 ≤ l.length) :
    Calls Try.prog 21 #[x0, x1] w (Ret (Is (AdrV (adr4 l z.toNat))) w) := by
 have hlen := Bs.len_le h0
 obtain ⟨q, rfl⟩ : ∃ q : Nat, z = (q : Int) := ⟨z.toNat, by omega⟩
 simp only [Int.toNat_natCast] at hz1 ⊢
 refine enter Try.func21 rfl Try.ntmps21 (k := 2) rfl (by decide) (fun a0 hr hargs => ?_)
 have s0 := sarg h0 (hargs 0 (by decide))
 have s1 := sarg h1 (hargs 1 (by decide))
 clear hargs
 refine wp_seq ?_
 refine wp_reg 21 [[]] [?b1_0] mixed (by kernel_rfl) (by kernel_rfl) hr ?t1 ?o1 ?_
 case o1 =>
  refine oc0 (fun A W hx hf => ?_) ?_
  exact ok_allocS [adrCells adr0] [17] zerov26 (by rfl) (by rfl) hx.size
  exact OpsOk.nil
 case t1 => exact inferInstance
 clear hr; intro a2 w2 x hr hd hs
 revert s0 s1; refine kp2 hs rfl ?_; intro s0 s1
 have s4 := fa ?b1_0 a2 w2 4 (hd 0 4 rfl)
 obtain ⟨g2_4, q2_4⟩ := PxN.at s4; clear s4; have n2_4 := PxS.lt q2_4
 have s4 := q2_4; clear q2_4
 have e_w := x
 clear hd hs x
 refine exit_then ?_
 refine wp_seq ?_
 refine wp_reg 21 [[]] [?b3_0] mixed (by kernel_rfl) (by kernel_rfl) hr ?t3 ?o3 ?_
 case o3 =>
  refine oc0 (fun A W hx hf => ?_) ?_
  exact ok_allocS [[.bool false], (List.replicate 16 0).map byteV] [1, 16] zerov26 (by rfl) (by rfl) hx.size
  exact OpsOk.nil
 case t3 => exact inferInstance
 clear hr; intro a4 w4 x hr hd hs
 have z_w_w2 := e_w.size
 have l4_4 := PxS.lt s4
 revert s0 s1 s4; refine kp3 hs rfl ?_; intro s0 s1 s4
 have s5 := fa ?b3_0 a4 w4 5 (hd 0 5 rfl)
 obtain ⟨g4_5, q4_5⟩ := PxN.at s5; clear s5; have n4_5 := PxS.lt q4_5
 replace q4_5 := PxS.mono q4_5 e_w.size
 have s5 := q4_5; clear q4_5
 replace e_w := e_w.trans x
 have e_w2 := x
 clear hd hs x
 refine exit_then ?_
 refine wp_seq ?_
 refine wp_seq ?_
 refine wp_reg 21 [[]] [?b5_0] mixed (by kernel_rfl) (by kernel_rfl) hr ?t5 ?o5 ?_
 case o5 =>
  refine oc0 (fun A W hx hf => ?_) ?_
  exact ok_assignc
  exact OpsOk.nil
 case t5 => exact inferInstance
 clear hr; intro a6 w6 x hr hd hs
 revert s0 s1 s4 s5; refine kp4 hs rfl ?_; intro s0 s1 s4 s5
 have s6 := fa ?b5_0 a6 w6 6 (hd 0 6 rfl)
 replace e_w := e_w.trans x
 replace e_w2 := e_w2.trans x
 have e_w4 := x
 clear hd hs x
 refine exit_then ?_
 refine wp_block ?_
 refine wp_loop_inv (fun n A W => ∃ (i : Nat), n = 4 - i ∧ Fr 21 A ∧ Same D_c_r8addr_0 a6 A ∧ Ext w W ∧ (i ≤ 4) ∧ (PxS g2_4 w.heap.size [17] [adrCells adr0] 0) (A.eval (.tmp 4)) W ∧ (PxS g4_5 w.heap.size [1, 16] [[.bool false], (adr4p l q i).map byteV] 0) (A.eval (.tmp 5)) W ∧ (Is (.int .i64 (i : Int))) (A.eval (.tmp 6)) W) ?start7 ?_
 case start7 =>
  refine ⟨_, 0, rfl, hr, Same.rfl, e_w, (by first | assumption | omega), ?_, ?_, ?_⟩
  · first | exact (later e_w2 s4) | exact Is.int (later e_w2 s4) (by first | omega | simp) | exact Is.bool (later e_w2 s4) (by first | omega | simp)
  · exact (later e_w4 s5)
  · first | exact s6 | exact Is.int s6 (by first | omega | simp) | exact Is.bool s6 (by first | omega | simp)
 intro n7 a7 w7 hI
 clear e_w
 clear e_w2
 clear e_w4
 clear hr; obtain ⟨i, hn7, hr, hs, e_w, hi, u4, u5, u6⟩ := hI
 revert s0 s1; refine kp2 hs rfl ?_; intro s0 s1
 clear s4 s5 s6
 have s4 := u4; clear u4
 have s5 := u5; clear u5
 have s6 := u6; clear u6
 have m7 := hs; clear hs
 refine wp_seq ?_
 refine wp_seq ?_
 refine wp_reg 21 [[(6, none)], [(7, some 0)]] [?b8_0, ?b8_1] mixed (by kernel_rfl) (by kernel_rfl) hr ?t8 ?o8 ?_
 case o8 =>
  refine oc0 (fun A W hx hf => ?_) ?_
  exact ok_movE (a0 := a7) (r0 hf)
  refine oc0 (fun A W hx hf => ?_) ?_
  exact ok_lss (p1 s6 hx (q0 ?b8_0 A W 7 hf)) (ec A (.int .i64 4))
  exact OpsOk.nil
 case t8 => exact inferInstance
 clear hr; intro a9 w9 x hr hd hs
 revert s0 s1 s4 s5 s6; refine kp5 hs rfl ?_; intro s0 s1 s4 s5 s6
 have s8 := fa ?b8_1 a9 w9 8 (hd 1 8 rfl)
 replace e_w := e_w.trans x
 have e_w7 := x
 replace m7 := m7.tr hs rfl
 clear hd hs x
 refine exit_then ?_
 refine wp_cond_split (show _ = _ from s8) (fun hlt => ?_) (fun hlt => ?_)
 · skip
   have hlt : i < 4 := by simp at hlt; omega
   refine wp_skip ?_
   refine exit_then ?_
   refine wp_seq ?_
   refine wp_block ?_
   refine wp_reg_pre (l := [_, _, _, _, _, _, _, _, _]) (rest := [_]) 21 [[(6, none)], [(0, none)], [(1, none)], [(6, none)], [(13, some 2), (14, some 3)], [(12, some 1), (15, some 4)], [(16, some 5)], [(5, none)], [(18, some 7), (11, some 0)]] [?b11_0, ?b11_1, ?b11_2, ?b11_3, ?b11_4, ?b11_5, ?b11_6, ?b11_7, ?b11_8] (by kernel_rfl) (by kernel_rfl) hr ?t11 ?o11 ?_
   case o11 =>
    refine oc0 (fun A W hx hf => ?_) ?_
    exact ok_movE (a0 := a9) (r0 hf)
    refine oc0 (fun A W hx hf => ?_) ?_
    exact ok_movE (a0 := a9) (r0 hf)
    refine oc0 (fun A W hx hf => ?_) ?_
    exact ok_movE (a0 := a9) (r0 hf)
    refine oc0 (fun A W hx hf => ?_) ?_
    exact ok_movE (a0 := a9) (r0 hf)
    refine oc0 (fun A W hx hf => ?_) ?_
    exact ok_addI (p2 s1 e_w hx (q0 ?b11_2 A W 13 hf)) (p2 s6 e_w7 hx (q1 ?b11_3 A W 14 hf)) (by omega)
    refine oc0 (fun A W hx hf => ?_) ?_
    exact ok_index_bs (q + i) Try.underlying22 size5 (p2 s0 e_w hx (q0 ?b11_1 A W 12 hf)) (Is.int (q1 ?b11_4 A W 15 hf) (by omega)) (by first | omega | decide | (simp; done) | (simp; omega))
    refine oc0 (fun A W hx hf => ?_) ?_
    exact ok_loadp Try.underlying5 rfl (q0 ?b11_5 A W 16 hf)
    refine oc0 (fun A W hx hf => ?_) ?_
    exact ok_fieldS 1 Try.underlying26 (k := 1) rfl size24 rfl (o2 s5 e_w7 hx (r0 hf)) rfl
    refine oc0 (fun A W hx hf => ?_) ?_
    exact ok_indexS (_) Try.underlying24 size5 (q0 ?b11_7 A W 18 hf) (p2 s6 e_w7 hx (q1 ?b11_0 A W 11 hf)) rfl (by first | omega | decide | (simp; done) | (simp; omega))
    exact OpsOk.nil
   case t11 => exact inferInstance
   clear hr; intro a12 w12 x hr hd hs
   revert s0 s1 s4 s5 s6; refine kp5 hs rfl ?_; intro s0 s1 s4 s5 s6
   clear s8
   have s17 := fa ?b11_6 a12 w12 17 (hd 6 17 rfl)
   have s19 := fa ?b11_8 a12 w12 19 (hd 8 19 rfl)
   replace e_w := e_w.trans x
   replace e_w7 := e_w7.trans x
   replace m7 := m7.tr hs rfl
   clear hd hs x
   have z13 := PxE.lt s19
   have l13 := (show (g4_5 = 0 ∨ w.heap.size < g4_5) ∧ True from ⟨by omega, trivial⟩)
   have l13_4 := PxS.lt (later e_w7 s4)
   refine wl_storeE hr size5 s19 rfl s17 ?_; clear hr; intro a13 w13 hc hu hr hs
   have hb : Below w.heap.size w12 w13 := hc.below e_w.size l13.1
   revert s0 s1 s4 s5 s6; refine kp5 hs rfl ?_; intro s0 s1 s4 s5 s6
   clear s17 s19
   replace s4 := PxS.other (later e_w7 s4) hc (by omega)
   replace s5 := hu _ _ _ (later e_w7 s5)
   try simp only [List.set_cons_zero, List.set_cons_succ] at s5
   replace e_w := e_w.below (Nat.le_refl _) hb
   clear e_w7
   replace s6 := anyw (w2 := w13) s6
   replace m7 := m7.tr hs rfl
   clear hu hs hc hb
   refine wpList_nil ?_
   refine blk_normal ?_
   refine exit_then ?_
   refine wp_reg 21 [[(6, none)], [(9, some 0)], [(10, some 1)]] [?b14_0, ?b14_1, ?b14_1] mixed (by kernel_rfl) (by kernel_rfl) hr ?t14 ?o14 ?_
   case o14 =>
    refine oc0 (fun A W hx hf => ?_) ?_
    exact ok_movE (a0 := a13) (r0 hf)
    refine oc0 (fun A W hx hf => ?_) ?_
    exact ok_addI (p1 s6 hx (q0 ?b14_0 A W 9 hf)) (ec A (.int .i64 1)) (by omega)
    refine oc0 (fun A W hx hf => ?_) ?_
    exact ok_assign (q0 ?b14_1 A W 10 hf)
    exact OpsOk.nil
   case t14 => exact inferInstance
   clear hr; intro a15 w15 x hr hd hs
   revert s0 s1 s4 s5; refine kp4 hs rfl ?_; intro s0 s1 s4 s5
   clear s6
   have s6 := fa ?b14_1 a15 w15 6 (hd 2 6 rfl)
   replace e_w := e_w.trans x
   have e_w13 := x
   replace m7 := m7.tr hs rfl
   clear hd hs x
   refine exit_then ?_
   refine ⟨(fun (i : Nat) => 4 - i) (i + 1), ?_, ?_⟩
   · (try dsimp only); omega
   refine ⟨i + 1, rfl, hr, m7, e_w, (by first | assumption | omega), ?_, ?_, ?_⟩
   · first | exact (later e_w13 s4) | exact Is.int (later e_w13 s4) (by first | omega | simp) | exact Is.bool (later e_w13 s4) (by first | omega | simp)
   · exact PxS.cast (later e_w13 s5) (by rw [adr4p_step (by omega) (by omega)])
   · first | exact s6 | exact Is.int s6 (by first | omega | simp) | exact Is.bool s6 (by first | omega | simp)
 · skip
   have hlt : i = 4 := by simp at hlt; omega
   subst hlt
   refine wp_exit ?_
   refine then_exit ?_
   refine then_exit ?_
   refine blk_exit ?_
   refine exit_then ?_
   refine wp_seq ?_
   refine wp_reg_pre (l := [_]) (rest := [_]) 21 [[(5, none)]] [?b16_0] (by kernel_rfl) (by kernel_rfl) hr ?t16 ?o16 ?_
   case o16 =>
    refine oc0 (fun A W hx hf => ?_) ?_
    exact ok_loadAggS 2 Try.underlying26 rfl size26 (o2 s5 e_w7 hx (r0 hf)) rfl
    exact OpsOk.nil
   case t16 => exact inferInstance
   clear hr; intro a17 w17 x hr hd hs
   revert s4; refine kp1 hs rfl ?_; intro s4
   clear s0 s1 s5 s6 s8
   have s20 := fa ?b16_0 a17 w17 20 (hd 0 20 rfl)
   replace e_w := e_w.trans x
   replace e_w7 := e_w7.trans x
   clear hd hs x
   have z18 := PxS.lt (later e_w7 s4)
   have l18 := (show (g2_4 = 0 ∨ w.heap.size < g2_4) ∧ True from ⟨by omega, trivial⟩)
   refine wl_storeSn hr size26 (later e_w7 s4) s20 (by simp [adr4p]; omega) (by intro u hu; simp at hu; rcases hu with rfl | ⟨c, _, rfl⟩ <;> rfl) rfl ?_; clear hr; intro a18 w18 hc hu hr hs
   have hb : Below w.heap.size w17 w18 := hc.below e_w.size l18.1
   revert s4; refine kp1 hs rfl ?_; intro s4
   clear s20
   replace s4 := hu _ _ _ (later e_w7 s4)
   try simp only [List.set_cons_zero, List.set_cons_succ] at s4
   replace e_w := e_w.below (Nat.le_refl _) hb
   clear e_w7
   clear hu hs hc hb
   refine wpList_nil ?_
   refine exit_then ?_
   refine wp_ret ?_
   refine ret_cell Try.results21 hr Try.underlying26 rfl size26 s4 e_w ?_
   exact (show Value.agg _ = _ from by simp [AdrV, adrCells, adr4, adr4p])

theorem c_r8Read {x0 : Value} {w : World} {l : List UInt8} (h0 : (Bs l) x0 w) (hn : l.length ≤ 1000000000000) :
    Calls Try.prog 11 #[x0] w (Ret (Tup2 (Is (FourV (fourRead l).1)) (Is (.int .i64 (fourRead l).2))) w) := by
 have hlen := Bs.len_le h0
 have b0 := byteAt_bd l 0
 have b6 := byteAt_bd l 6
 have b7 := byteAt_bd l 7
 have w2 := wordAt_bd l 2
 have w6 := wordAt_bd l 6
 refine enter Try.func11 rfl Try.ntmps11 (k := 1) rfl (by decide) (fun a0 hr hargs => ?_)
 have s0 := sarg h0 (hargs 0 (by decide))
 clear hargs
 refine wp_seq ?_
 refine wp_reg 102 [[], []] [?b1_0, ?b1_1] mixed (by kernel_rfl) (by kernel_rfl) hr ?t1 ?o1 ?_
 case o1 =>
  refine oc0 (fun A W hx hf => ?_) ?_
  exact ok_allocS [(fourS four0).flatten] [42] zerov28 (by rfl) (by rfl) hx.size
  refine oc0 (fun A W hx hf => ?_) ?_
  exact ok_assignc
  exact OpsOk.nil
 case t1 => exact inferInstance
 clear hr; intro a2 w2 x hr hd hs
 revert s0; refine kp1 hs rfl ?_; intro s0
 have s2 := fa ?b1_0 a2 w2 2 (hd 0 2 rfl)
 obtain ⟨g2_2, q2_2⟩ := PxN.at s2; clear s2; have n2_2 := PxS.lt q2_2
 have s2 := q2_2; clear q2_2
 have e_w := x
 clear hd hs x
 refine exit_then ?_
 refine wp_seq ?_
 refine wp_seq ?_
 refine wp_reg 102 [[(0, none)], [(6, some 0)], [(7, some 1)]] [?b3_0, ?b3_1, ?b3_2] mixed (by kernel_rfl) (by kernel_rfl) hr ?t3 ?o3 ?_
 case o3 =>
  refine oc0 (fun A W hx hf => ?_) ?_
  exact ok_movE (a0 := a2) (r0 hf)
  refine oc0 (fun A W hx hf => ?_) ?_
  exact ok_len_bs Try.underlying22 (p2 s0 e_w hx (q0 ?b3_0 A W 6 hf))
  refine oc0 (fun A W hx hf => ?_) ?_
  exact ok_lss (q0 ?b3_1 A W 7 hf) (ec A (.int .i64 20))
  exact OpsOk.nil
 case t3 => exact inferInstance
 clear hr; intro a4 w4 x hr hd hs
 revert s0 s2; refine kp2 hs rfl ?_; intro s0 s2
 have s8 := fa ?b3_2 a4 w4 8 (hd 2 8 rfl)
 replace e_w := e_w.trans x
 have e_w2 := x
 clear hd hs x
 refine exit_then ?_
 refine wp_cond_split (show _ = _ from s8) (fun hl => ?_) (fun hl => ?_)
 · skip
   have hl : l.length < 20 := by simp at hl; omega
   have hrd : fourRead l = (four0, 2) := by unfold fourRead; rw [if_pos hl]
   refine wp_seq ?_
   refine wp_reg_pre (l := [_]) (rest := [_, _]) 102 [[]] [?b6_0] (by kernel_rfl) (by kernel_rfl) hr ?t6 ?o6 ?_
   case o6 =>
    refine oc0 (fun A W hx hf => ?_) ?_
    exact ok_build0 built28
    exact OpsOk.nil
   case t6 => exact inferInstance
   clear hr; intro a7 w7 x hr hd hs
   revert s2; refine kp1 hs rfl ?_; intro s2
   clear s0 s8
   have s9 := fa ?b6_0 a7 w7 9 (hd 0 9 rfl)
   replace e_w := e_w.trans x
   replace e_w2 := e_w2.trans x
   clear hd hs x
   have z8 := PxS.lt (later e_w2 s2)
   have l8 := (show (g2_2 = 0 ∨ w.heap.size < g2_2) ∧ True from ⟨by omega, trivial⟩)
   refine wl_storeSn hr size28 (later e_w2 s2) s9 (by exact four_len four0_ok) (by exact four_one) rfl ?_; clear hr; intro a8 w8 hc hu hr hs
   have hb : Below w.heap.size w7 w8 := hc.below e_w.size l8.1
   revert s2; refine kp1 hs rfl ?_; intro s2
   clear s9
   replace s2 := hu _ _ _ (later e_w2 s2)
   try simp only [List.set_cons_zero, List.set_cons_succ] at s2
   replace e_w := e_w.below (Nat.le_refl _) hb
   clear e_w2
   clear hu hs hc hb
   refine wl_op hr (ok_assignc) inferInstance ?_; clear hr; intro a9 w9 x hr hd hs
   revert s2; refine kp1 hs rfl ?_; intro s2
   have s3 := hd 3 rfl (by decide)
   replace e_w := e_w.trans x
   have e_w8 := x
   clear hd hs x
   refine wpList_nil ?_
   refine exit_then ?_
   refine wp_ret ?_
   refine then_ret ?_
   refine ret_cell_tmp Try.results11 hr Try.underlying28 rfl size28 (later e_w8 s2) e_w ?_
   (rw [hrd]; exact ⟨_, _, rfl, rfl, s3⟩)
 · skip
   have hl : ¬ l.length < 20 := by simp at hl; omega
   have e0 : (l[0]'(by omega)).toNat = byteAt l 0 := (byteAt_get (by omega)).symm
   have e1 : (l[1]'(by omega)).toNat = byteAt l 1 := (byteAt_get (by omega)).symm
   have e2 : (l[2]'(by omega)).toNat = byteAt l 2 := (byteAt_get (by omega)).symm
   have e3 : (l[3]'(by omega)).toNat = byteAt l 3 := (byteAt_get (by omega)).symm
   have e4 : (l[4]'(by omega)).toNat = byteAt l 4 := (byteAt_get (by omega)).symm
   have e5 : (l[5]'(by omega)).toNat = byteAt l 5 := (byteAt_get (by omega)).symm
   have e6 : (l[6]'(by omega)).toNat = byteAt l 6 := (byteAt_get (by omega)).symm
   have e7 : (l[7]'(by omega)).toNat = byteAt l 7 := (byteAt_get (by omega)).symm
   have e8 : (l[8]'(by omega)).toNat = byteAt l 8 := (byteAt_get (by omega)).symm
   have e9 : (l[9]'(by omega)).toNat = byteAt l 9 := (byteAt_get (by omega)).symm
   have y2 := byteAt_bd l 2
   have y3 := byteAt_bd l 3
   have y4 := byteAt_bd l 4
   have y5 := byteAt_bd l 5
   refine wp_skip ?_
   refine exit_then ?_
   refine wp_seq ?_
   refine wp_reg 102 [[(0, none)], [(10, some 0)], [(11, some 1)], [(12, some 2)], [(13, some 3)], [(14, some 4)], [(15, some 5)]] [?b10_0, ?b10_1, ?b10_2, ?b10_3, ?b10_4, ?b10_5, ?b10_5] mixed (by kernel_rfl) (by kernel_rfl) hr ?t10 ?o10 ?_
   case o10 =>
    refine oc0 (fun A W hx hf => ?_) ?_
    exact ok_movE (a0 := a4) (r0 hf)
    refine oc0 (fun A W hx hf => ?_) ?_
    exact ok_index_bs (0) Try.underlying22 size5 (p2 s0 e_w hx (q0 ?b10_0 A W 10 hf)) (ec A (.int .i64 0)) (by first | omega | decide | (simp; done) | (simp; omega))
    refine oc0 (fun A W hx hf => ?_) ?_
    exact ok_loadp Try.underlying5 rfl (q0 ?b10_1 A W 11 hf)
    refine oc0 (fun A W hx hf => ?_) ?_
    exact ok_rem (by decide) (q0 ?b10_2 A W 12 hf) (ec A (.int .u8 16))
    refine oc0 (fun A W hx hf => ?_) ?_
    exact ok_convI Try.underlying5 Try.underlying3 (by exact IntWalk.i64_in _ (tmod_bd (by omega))) (q0 ?b10_3 A W 13 hf)
    refine oc0 (fun A W hx hf => ?_) ?_
    exact ok_mulI (q0 ?b10_4 A W 14 hf) (ec A (.int .i64 4)) (by have := tmod16 (n := (l[0].toNat : Int)) (by omega); omega)
    refine oc0 (fun A W hx hf => ?_) ?_
    exact ok_assign (q0 ?b10_5 A W 15 hf)
    exact OpsOk.nil
   case t10 => exact inferInstance
   clear hr; intro a11 w11 x hr hd hs
   revert s0 s2; refine kp2 hs rfl ?_; intro s0 s2
   clear s8
   have s4 := fa ?b10_5 a11 w11 4 (hd 6 4 rfl)
   replace e_w := e_w.trans x
   replace e_w2 := e_w2.trans x
   clear hd hs x
   replace s4 := Is.int s4 (show _ = byteAt l 0 % 16 * 4 from by rw [e0, Int.tmod_eq_emod_of_nonneg (by omega)])
   refine exit_then ?_
   refine wp_seq ?_
   refine wp_seq ?_
   refine wp_reg 102 [[(0, none)], [(16, some 0)], [(17, some 1)], [(18, some 2)], [(19, some 3)], [(20, some 4)], [(4, none), (21, some 5)], [(22, some 6), (21, some 5)], [(21, some 5), (23, some 7)]] [?b12_0, ?b12_1, ?b12_2, ?b12_3, ?b12_4, ?b12_4, ?b12_6, ?b12_7, ?b12_8] mixed (by kernel_rfl) (by kernel_rfl) hr ?t12 ?o12 ?_
   case o12 =>
    refine oc0 (fun A W hx hf => ?_) ?_
    exact ok_movE (a0 := a11) (r0 hf)
    refine oc0 (fun A W hx hf => ?_) ?_
    exact ok_index_bs (0) Try.underlying22 size5 (p2 s0 e_w hx (q0 ?b12_0 A W 16 hf)) (ec A (.int .i64 0)) (by first | omega | decide | (simp; done) | (simp; omega))
    refine oc0 (fun A W hx hf => ?_) ?_
    exact ok_loadp Try.underlying5 rfl (q0 ?b12_1 A W 17 hf)
    refine oc0 (fun A W hx hf => ?_) ?_
    exact ok_quo (by decide) (q0 ?b12_2 A W 18 hf) (ec A (.int .u8 16))
    refine oc0 (fun A W hx hf => ?_) ?_
    exact ok_neq (q0 ?b12_3 A W 19 hf) (ec A (.int .u8 4))
    refine oc0 (fun A W hx hf => ?_) ?_
    exact ok_move (q0 ?b12_4 A W 20 hf)
    refine ocg 21 ?_ (fun A W hx hf => ?_) ?_
    rfl
    exact gd_f (q1 ?b12_4 A W 21 hf) (fun hc => ok_movE (a0 := a11) (r0 hf))
    refine ocg 21 ?_ (fun A W hx hf => ?_) ?_
    rfl
    exact gd_f (q1 ?b12_4 A W 21 hf) (fun hc => ok_lss (p1 s4 hx (G.get (q0 ?b12_6 A W 22 hf) hc)) (ec A (.int .i64 20)))
    refine oc0 (fun A W hx hf => ?_) ?_
    exact ok_or (q0 ?b12_4 A W 21 hf) (q1 ?b12_7 A W 23 hf)
    exact OpsOk.nil
   case t12 => exact inferInstance
   clear hr; intro a13 w13 x hr hd hs
   revert s0 s2 s4; refine kp3 hs rfl ?_; intro s0 s2 s4
   have s24 := fa ?b12_8 a13 w13 24 (hd 8 24 rfl)
   replace e_w := e_w.trans x
   replace e_w2 := e_w2.trans x
   have e_w11 := x
   clear hd hs x
   refine exit_then ?_
   refine wp_cond_split (show _ = _ from s24) (fun hv => ?_) (fun hv => ?_)
   · skip
     have hv : byteAt l 0 / 16 ≠ 4 ∨ byteAt l 0 % 16 * 4 < 20 := rread_c1 e0 hv
     have hrd : fourRead l = (four0, 3) := by unfold fourRead; rw [if_neg hl, if_pos hv]
     refine wp_seq ?_
     refine wp_reg_pre (l := [_]) (rest := [_, _]) 102 [[]] [?b15_0] (by kernel_rfl) (by kernel_rfl) hr ?t15 ?o15 ?_
     case o15 =>
      refine oc0 (fun A W hx hf => ?_) ?_
      exact ok_build0 built28
      exact OpsOk.nil
     case t15 => exact inferInstance
     clear hr; intro a16 w16 x hr hd hs
     revert s2; refine kp1 hs rfl ?_; intro s2
     clear s0 s4 s24
     have s25 := fa ?b15_0 a16 w16 25 (hd 0 25 rfl)
     replace e_w := e_w.trans x
     replace e_w2 := e_w2.trans x
     clear e_w11
     clear hd hs x
     have z17 := PxS.lt (later e_w2 s2)
     have l17 := (show (g2_2 = 0 ∨ w.heap.size < g2_2) ∧ True from ⟨by omega, trivial⟩)
     refine wl_storeSn hr size28 (later e_w2 s2) s25 (by exact four_len four0_ok) (by exact four_one) rfl ?_; clear hr; intro a17 w17 hc hu hr hs
     have hb : Below w.heap.size w16 w17 := hc.below e_w.size l17.1
     revert s2; refine kp1 hs rfl ?_; intro s2
     clear s25
     replace s2 := hu _ _ _ (later e_w2 s2)
     try simp only [List.set_cons_zero, List.set_cons_succ] at s2
     replace e_w := e_w.below (Nat.le_refl _) hb
     clear e_w2
     clear hu hs hc hb
     refine wl_op hr (ok_assignc) inferInstance ?_; clear hr; intro a18 w18 x hr hd hs
     revert s2; refine kp1 hs rfl ?_; intro s2
     have s3 := hd 3 rfl (by decide)
     replace e_w := e_w.trans x
     have e_w17 := x
     clear hd hs x
     refine wpList_nil ?_
     refine exit_then ?_
     refine wp_ret ?_
     refine then_ret ?_
     refine ret_cell_tmp Try.results11 hr Try.underlying28 rfl size28 (later e_w17 s2) e_w ?_
     (rw [hrd]; exact ⟨_, _, rfl, rfl, s3⟩)
   · skip
     have hv : ¬ (byteAt l 0 / 16 ≠ 4 ∨ byteAt l 0 % 16 * 4 < 20) := rread_c2 e0 hv
     refine wp_skip ?_
     refine exit_then ?_
     refine wp_seq ?_
     refine wp_seq ?_
     refine wp_reg 102 [[(4, none)], [(0, none)], [(27, some 1)], [(26, some 0), (28, some 2)]] [?b19_0, ?b19_1, ?b19_2, ?b19_3] mixed (by kernel_rfl) (by kernel_rfl) hr ?t19 ?o19 ?_
     case o19 =>
      refine oc0 (fun A W hx hf => ?_) ?_
      exact ok_movE (a0 := a13) (r0 hf)
      refine oc0 (fun A W hx hf => ?_) ?_
      exact ok_movE (a0 := a13) (r0 hf)
      refine oc0 (fun A W hx hf => ?_) ?_
      exact ok_len_bs Try.underlying22 (p2 s0 e_w hx (q0 ?b19_1 A W 27 hf))
      refine oc0 (fun A W hx hf => ?_) ?_
      exact ok_gtr (p2 s4 e_w11 hx (q0 ?b19_0 A W 26 hf)) (q1 ?b19_2 A W 28 hf)
      exact OpsOk.nil
     case t19 => exact inferInstance
     clear hr; intro a20 w20 x hr hd hs
     revert s0 s2 s4; refine kp3 hs rfl ?_; intro s0 s2 s4
     clear s24
     have s29 := fa ?b19_3 a20 w20 29 (hd 3 29 rfl)
     replace e_w := e_w.trans x
     replace e_w2 := e_w2.trans x
     replace e_w11 := e_w11.trans x
     clear hd hs x
     refine exit_then ?_
     refine wp_cond_split (show _ = _ from s29) (fun hh => ?_) (fun hh => ?_)
     · skip
       have hh : byteAt l 0 % 16 * 4 > (l.length : Int) := by simpa using hh
       have hrd : fourRead l = (four0, 2) := by unfold fourRead; rw [if_neg hl, if_neg hv, if_pos hh]
       refine wp_seq ?_
       refine wp_reg_pre (l := [_]) (rest := [_, _]) 102 [[]] [?b22_0] (by kernel_rfl) (by kernel_rfl) hr ?t22 ?o22 ?_
       case o22 =>
        refine oc0 (fun A W hx hf => ?_) ?_
        exact ok_build0 built28
        exact OpsOk.nil
       case t22 => exact inferInstance
       clear hr; intro a23 w23 x hr hd hs
       revert s2; refine kp1 hs rfl ?_; intro s2
       clear s0 s4 s29
       have s30 := fa ?b22_0 a23 w23 30 (hd 0 30 rfl)
       replace e_w := e_w.trans x
       replace e_w2 := e_w2.trans x
       clear e_w11
       clear hd hs x
       have z24 := PxS.lt (later e_w2 s2)
       have l24 := (show (g2_2 = 0 ∨ w.heap.size < g2_2) ∧ True from ⟨by omega, trivial⟩)
       refine wl_storeSn hr size28 (later e_w2 s2) s30 (by exact four_len four0_ok) (by exact four_one) rfl ?_; clear hr; intro a24 w24 hc hu hr hs
       have hb : Below w.heap.size w23 w24 := hc.below e_w.size l24.1
       revert s2; refine kp1 hs rfl ?_; intro s2
       clear s30
       replace s2 := hu _ _ _ (later e_w2 s2)
       try simp only [List.set_cons_zero, List.set_cons_succ] at s2
       replace e_w := e_w.below (Nat.le_refl _) hb
       clear e_w2
       clear hu hs hc hb
       refine wl_op hr (ok_assignc) inferInstance ?_; clear hr; intro a25 w25 x hr hd hs
       revert s2; refine kp1 hs rfl ?_; intro s2
       have s3 := hd 3 rfl (by decide)
       replace e_w := e_w.trans x
       have e_w24 := x
       clear hd hs x
       refine wpList_nil ?_
       refine exit_then ?_
       refine wp_ret ?_
       refine then_ret ?_
       refine ret_cell_tmp Try.results11 hr Try.underlying28 rfl size28 (later e_w24 s2) e_w ?_
       (rw [hrd]; exact ⟨_, _, rfl, rfl, s3⟩)
     · skip
       have hh : ¬ byteAt l 0 % 16 * 4 > (l.length : Int) := by simpa using hh
       refine wp_skip ?_
       refine exit_then ?_
       refine wp_seq ?_
       refine wp_reg 102 [[(0, none)], [(31, some 0)], [(32, some 1)], [(33, some 2)], [(34, some 3)], [(0, none)], [(36, some 5)], [(37, some 6)], [(38, some 7)], [(35, some 4), (39, some 8)], [(40, some 9)]] [?b26_0, ?b26_1, ?b26_2, ?b26_3, ?b26_4, ?b26_5, ?b26_6, ?b26_7, ?b26_8, ?b26_9, ?b26_9] mixed (by kernel_rfl) (by kernel_rfl) hr ?t26 ?o26 ?_
       case o26 =>
        refine oc0 (fun A W hx hf => ?_) ?_
        exact ok_movE (a0 := a20) (r0 hf)
        refine oc0 (fun A W hx hf => ?_) ?_
        exact ok_index_bs (2) Try.underlying22 size5 (p2 s0 e_w hx (q0 ?b26_0 A W 31 hf)) (ec A (.int .i64 2)) (by first | omega | decide | (simp; done) | (simp; omega))
        refine oc0 (fun A W hx hf => ?_) ?_
        exact ok_loadp Try.underlying5 rfl (q0 ?b26_1 A W 32 hf)
        refine oc0 (fun A W hx hf => ?_) ?_
        exact ok_convB Try.underlying5 Try.underlying3 (by decide) (q0 ?b26_2 A W 33 hf)
        refine oc0 (fun A W hx hf => ?_) ?_
        exact ok_mulI (ec A (.int .i64 256)) (q0 ?b26_3 A W 34 hf) (by omega)
        refine oc0 (fun A W hx hf => ?_) ?_
        exact ok_movE (a0 := a20) (r0 hf)
        refine oc0 (fun A W hx hf => ?_) ?_
        exact ok_index_bs (3) Try.underlying22 size5 (p2 s0 e_w hx (q0 ?b26_5 A W 36 hf)) (ec A (.int .i64 3)) (by first | omega | decide | (simp; done) | (simp; omega))
        refine oc0 (fun A W hx hf => ?_) ?_
        exact ok_loadp Try.underlying5 rfl (q0 ?b26_6 A W 37 hf)
        refine oc0 (fun A W hx hf => ?_) ?_
        exact ok_convB Try.underlying5 Try.underlying3 (by decide) (q0 ?b26_7 A W 38 hf)
        refine oc0 (fun A W hx hf => ?_) ?_
        exact ok_addI (q0 ?b26_4 A W 35 hf) (q1 ?b26_8 A W 39 hf) (by omega)
        refine oc0 (fun A W hx hf => ?_) ?_
        exact ok_assign (q0 ?b26_9 A W 40 hf)
        exact OpsOk.nil
       case t26 => exact inferInstance
       clear hr; intro a27 w27 x hr hd hs
       revert s0 s2 s4; refine kp3 hs rfl ?_; intro s0 s2 s4
       clear s29
       have s5 := fa ?b26_9 a27 w27 5 (hd 10 5 rfl)
       replace e_w := e_w.trans x
       replace e_w2 := e_w2.trans x
       replace e_w11 := e_w11.trans x
       clear hd hs x
       replace s5 := Is.int s5 (show _ = wordAt l 2 from by rw [e2, e3]; rfl)
       refine exit_then ?_
       refine wp_seq ?_
       refine wp_seq ?_
       refine wp_reg 102 [[(5, none)], [(4, none)], [(41, some 0), (42, some 1)]] [?b28_0, ?b28_1, ?b28_2] mixed (by kernel_rfl) (by kernel_rfl) hr ?t28 ?o28 ?_
       case o28 =>
        refine oc0 (fun A W hx hf => ?_) ?_
        exact ok_movE (a0 := a27) (r0 hf)
        refine oc0 (fun A W hx hf => ?_) ?_
        exact ok_movE (a0 := a27) (r0 hf)
        refine oc0 (fun A W hx hf => ?_) ?_
        exact ok_lss (p1 s5 hx (q0 ?b28_0 A W 41 hf)) (p2 s4 e_w11 hx (q1 ?b28_1 A W 42 hf))
        exact OpsOk.nil
       case t28 => exact inferInstance
       clear hr; intro a29 w29 x hr hd hs
       revert s0 s2 s4 s5; refine kp4 hs rfl ?_; intro s0 s2 s4 s5
       have s43 := fa ?b28_2 a29 w29 43 (hd 2 43 rfl)
       replace e_w := e_w.trans x
       replace e_w2 := e_w2.trans x
       replace e_w11 := e_w11.trans x
       have e_w27 := x
       clear hd hs x
       refine exit_then ?_
       refine wp_cond_split (show _ = _ from s43) (fun ht => ?_) (fun ht => ?_)
       · skip
         have ht : wordAt l 2 < byteAt l 0 % 16 * 4 := by simpa using ht
         have hrd : fourRead l = (four0, 3) := by unfold fourRead; rw [if_neg hl, if_neg hv, if_neg hh, if_pos ht]
         refine wp_seq ?_
         refine wp_reg_pre (l := [_]) (rest := [_, _]) 102 [[]] [?b31_0] (by kernel_rfl) (by kernel_rfl) hr ?t31 ?o31 ?_
         case o31 =>
          refine oc0 (fun A W hx hf => ?_) ?_
          exact ok_build0 built28
          exact OpsOk.nil
         case t31 => exact inferInstance
         clear hr; intro a32 w32 x hr hd hs
         revert s2; refine kp1 hs rfl ?_; intro s2
         clear s0 s4 s5 s43
         have s44 := fa ?b31_0 a32 w32 44 (hd 0 44 rfl)
         replace e_w := e_w.trans x
         replace e_w2 := e_w2.trans x
         clear e_w11
         clear e_w27
         clear hd hs x
         have z33 := PxS.lt (later e_w2 s2)
         have l33 := (show (g2_2 = 0 ∨ w.heap.size < g2_2) ∧ True from ⟨by omega, trivial⟩)
         refine wl_storeSn hr size28 (later e_w2 s2) s44 (by exact four_len four0_ok) (by exact four_one) rfl ?_; clear hr; intro a33 w33 hc hu hr hs
         have hb : Below w.heap.size w32 w33 := hc.below e_w.size l33.1
         revert s2; refine kp1 hs rfl ?_; intro s2
         clear s44
         replace s2 := hu _ _ _ (later e_w2 s2)
         try simp only [List.set_cons_zero, List.set_cons_succ] at s2
         replace e_w := e_w.below (Nat.le_refl _) hb
         clear e_w2
         clear hu hs hc hb
         refine wl_op hr (ok_assignc) inferInstance ?_; clear hr; intro a34 w34 x hr hd hs
         revert s2; refine kp1 hs rfl ?_; intro s2
         have s3 := hd 3 rfl (by decide)
         replace e_w := e_w.trans x
         have e_w33 := x
         clear hd hs x
         refine wpList_nil ?_
         refine exit_then ?_
         refine wp_ret ?_
         refine then_ret ?_
         refine ret_cell_tmp Try.results11 hr Try.underlying28 rfl size28 (later e_w33 s2) e_w ?_
         (rw [hrd]; exact ⟨_, _, rfl, rfl, s3⟩)
       · skip
         have ht : ¬ wordAt l 2 < byteAt l 0 % 16 * 4 := by simpa using ht
         refine wp_skip ?_
         refine exit_then ?_
         refine wp_seq ?_
         refine wp_seq ?_
         refine wp_reg 102 [[(5, none)], [(0, none)], [(46, some 1)], [(45, some 0), (47, some 2)]] [?b35_0, ?b35_1, ?b35_2, ?b35_3] mixed (by kernel_rfl) (by kernel_rfl) hr ?t35 ?o35 ?_
         case o35 =>
          refine oc0 (fun A W hx hf => ?_) ?_
          exact ok_movE (a0 := a29) (r0 hf)
          refine oc0 (fun A W hx hf => ?_) ?_
          exact ok_movE (a0 := a29) (r0 hf)
          refine oc0 (fun A W hx hf => ?_) ?_
          exact ok_len_bs Try.underlying22 (p2 s0 e_w hx (q0 ?b35_1 A W 46 hf))
          refine oc0 (fun A W hx hf => ?_) ?_
          exact ok_gtr (p2 s5 e_w27 hx (q0 ?b35_0 A W 45 hf)) (q1 ?b35_2 A W 47 hf)
          exact OpsOk.nil
         case t35 => exact inferInstance
         clear hr; intro a36 w36 x hr hd hs
         revert s0 s2 s4 s5; refine kp4 hs rfl ?_; intro s0 s2 s4 s5
         clear s43
         have s48 := fa ?b35_3 a36 w36 48 (hd 3 48 rfl)
         replace e_w := e_w.trans x
         replace e_w2 := e_w2.trans x
         replace e_w11 := e_w11.trans x
         replace e_w27 := e_w27.trans x
         clear hd hs x
         refine exit_then ?_
         refine wp_cond_split (show _ = _ from s48) (fun hu => ?_) (fun hu => ?_)
         · skip
           have hu : wordAt l 2 > (l.length : Int) := by simpa using hu
           have hrd : fourRead l = (four0, 2) := by unfold fourRead; rw [if_neg hl, if_neg hv, if_neg hh, if_neg ht, if_pos hu]
           refine wp_seq ?_
           refine wp_reg_pre (l := [_]) (rest := [_, _]) 102 [[]] [?b38_0] (by kernel_rfl) (by kernel_rfl) hr ?t38 ?o38 ?_
           case o38 =>
            refine oc0 (fun A W hx hf => ?_) ?_
            exact ok_build0 built28
            exact OpsOk.nil
           case t38 => exact inferInstance
           clear hr; intro a39 w39 x hr hd hs
           revert s2; refine kp1 hs rfl ?_; intro s2
           clear s0 s4 s5 s48
           have s49 := fa ?b38_0 a39 w39 49 (hd 0 49 rfl)
           replace e_w := e_w.trans x
           replace e_w2 := e_w2.trans x
           clear e_w11
           clear e_w27
           clear hd hs x
           have z40 := PxS.lt (later e_w2 s2)
           have l40 := (show (g2_2 = 0 ∨ w.heap.size < g2_2) ∧ True from ⟨by omega, trivial⟩)
           refine wl_storeSn hr size28 (later e_w2 s2) s49 (by exact four_len four0_ok) (by exact four_one) rfl ?_; clear hr; intro a40 w40 hc hu hr hs
           have hb : Below w.heap.size w39 w40 := hc.below e_w.size l40.1
           revert s2; refine kp1 hs rfl ?_; intro s2
           clear s49
           replace s2 := hu _ _ _ (later e_w2 s2)
           try simp only [List.set_cons_zero, List.set_cons_succ] at s2
           replace e_w := e_w.below (Nat.le_refl _) hb
           clear e_w2
           clear hu hs hc hb
           refine wl_op hr (ok_assignc) inferInstance ?_; clear hr; intro a41 w41 x hr hd hs
           revert s2; refine kp1 hs rfl ?_; intro s2
           have s3 := hd 3 rfl (by decide)
           replace e_w := e_w.trans x
           have e_w40 := x
           clear hd hs x
           refine wpList_nil ?_
           refine exit_then ?_
           refine wp_ret ?_
           refine then_ret ?_
           refine ret_cell_tmp Try.results11 hr Try.underlying28 rfl size28 (later e_w40 s2) e_w ?_
           (rw [hrd]; exact ⟨_, _, rfl, rfl, s3⟩)
         · skip
           have hu : ¬ wordAt l 2 > (l.length : Int) := by simpa using hu
           refine wp_skip ?_
           refine exit_then ?_
           refine wp_seq ?_
           refine wp_seq ?_
           refine wp_reg 102 [[(0, none)], [(4, none)], [(50, some 0), (51, some 1)], [(52, some 2)], [(53, some 3)]] [?b42_0, ?b42_1, ?b42_2, ?b42_3, ?b42_4] mixed (by kernel_rfl) (by kernel_rfl) hr ?t42 ?o42 ?_
           case o42 =>
            refine oc0 (fun A W hx hf => ?_) ?_
            exact ok_movE (a0 := a36) (r0 hf)
            refine oc0 (fun A W hx hf => ?_) ?_
            exact ok_movE (a0 := a36) (r0 hf)
            refine oc0 (fun A W hx hf => ?_) ?_
            exact okW_slice_hi ((byteAt l 0 % 16 * 4).toNat) Try.underlying22 size5 (sarg s0 (show _ = _ from (q0 ?b42_0 A W 50 hf))) (Is.int (p2 s4 e_w11 hx (q1 ?b42_1 A W 51 hf)) (by omega)) (by omega)
            refine oc0 (fun A W hx hf => ?_) ?_
            exact ok_call1 body16 (c_rSum (AtW.now (q0 ?b42_2 A W 52 hf) (e_w.trans hx)) (by simp only [List.length_take]; omega))
            refine oc0 (fun A W hx hf => ?_) ?_
            exact ok_neq (q0 ?b42_3 A W 53 hf) (ec A (.int .i64 0))
            exact OpsOk.nil
           case t42 => exact inferInstance
           clear hr; intro a43 w43 x hr hd hs
           revert s0 s2 s4 s5; refine kp4 hs rfl ?_; intro s0 s2 s4 s5
           clear s48
           have s54 := fa ?b42_4 a43 w43 54 (hd 4 54 rfl)
           replace e_w := e_w.trans x
           replace e_w2 := e_w2.trans x
           replace e_w11 := e_w11.trans x
           replace e_w27 := e_w27.trans x
           clear hd hs x
           refine exit_then ?_
           refine wp_cond_split (show _ = _ from s54) (fun hs => ?_) (fun hs => ?_)
           · skip
             have hs : ck (l.take (byteAt l 0 % 16 * 4).toNat) ≠ 0 := by simpa using hs
             have hrd : fourRead l = (four0, 8) := by unfold fourRead; rw [if_neg hl, if_neg hv, if_neg hh, if_neg ht, if_neg hu, if_pos hs]
             refine wp_seq ?_
             refine wp_reg_pre (l := [_]) (rest := [_, _]) 102 [[]] [?b45_0] (by kernel_rfl) (by kernel_rfl) hr ?t45 ?o45 ?_
             case o45 =>
              refine oc0 (fun A W hx hf => ?_) ?_
              exact ok_build0 built28
              exact OpsOk.nil
             case t45 => exact inferInstance
             clear hr; intro a46 w46 x hr hd hs
             revert s2; refine kp1 hs rfl ?_; intro s2
             clear s0 s4 s5 s54
             have s55 := fa ?b45_0 a46 w46 55 (hd 0 55 rfl)
             replace e_w := e_w.trans x
             replace e_w2 := e_w2.trans x
             clear e_w11
             clear e_w27
             clear hd hs x
             have z47 := PxS.lt (later e_w2 s2)
             have l47 := (show (g2_2 = 0 ∨ w.heap.size < g2_2) ∧ True from ⟨by omega, trivial⟩)
             refine wl_storeSn hr size28 (later e_w2 s2) s55 (by exact four_len four0_ok) (by exact four_one) rfl ?_; clear hr; intro a47 w47 hc hu hr hs
             have hb : Below w.heap.size w46 w47 := hc.below e_w.size l47.1
             revert s2; refine kp1 hs rfl ?_; intro s2
             clear s55
             replace s2 := hu _ _ _ (later e_w2 s2)
             try simp only [List.set_cons_zero, List.set_cons_succ] at s2
             replace e_w := e_w.below (Nat.le_refl _) hb
             clear e_w2
             clear hu hs hc hb
             refine wl_op hr (ok_assignc) inferInstance ?_; clear hr; intro a48 w48 x hr hd hs
             revert s2; refine kp1 hs rfl ?_; intro s2
             have s3 := hd 3 rfl (by decide)
             replace e_w := e_w.trans x
             have e_w47 := x
             clear hd hs x
             refine wpList_nil ?_
             refine exit_then ?_
             refine wp_ret ?_
             refine then_ret ?_
             refine ret_cell_tmp Try.results11 hr Try.underlying28 rfl size28 (later e_w47 s2) e_w ?_
             (rw [hrd]; exact ⟨_, _, rfl, rfl, s3⟩)
           · skip
             have hs : ¬ ck (l.take (byteAt l 0 % 16 * 4).toNat) ≠ 0 := by simpa using hs
             have hrd := fourRead_last hl hv hh ht hu hs
             refine wp_skip ?_
             refine exit_then ?_
             refine wp_seq ?_
             refine wp_any_start mixed (fun w49 x => ?_)
             show wpAny _ _ _ _ 48 _ _ _
             replace e_w := e_w.trans x
             replace e_w2 := e_w2.trans x
             replace e_w11 := e_w11.trans x
             replace e_w27 := e_w27.trans x
             have e_w43 := x
             clear x
             refine wp_sel (l := [_, _, _, _, _, _, _, _, _, _, _, _, _, _, _, _, _, _, _, _, _, _, _, _, _, _, _, _, _, _, _, _, _, _, _, _, _, _, _, _, _, _, _, _, _, _, _, _]) 102 _ [false, false, false, false, false, false, false, false, false, false, false, false, false, false, false, false, false, false, false, false, false, false, false, false, false, false, false, false, false, false, false, false, false, false, false, false, false, false, false, false, false, false, false, false, false, false, true, true] [46, 47] [[(4, none)], [(5, none)], [(0, none)], [(58, some 2)], [(59, some 3)], [(60, some 4)], [(0, none)], [(62, some 6)], [(63, some 7)], [(64, some 8)], [(65, some 9)], [(0, none)], [(67, some 11)], [(68, some 12)], [(69, some 13)], [(66, some 10), (70, some 14)], [(0, none)], [(72, some 16)], [(73, some 17)], [(74, some 18)], [(75, some 19)], [(76, some 20)], [(0, none), (77, some 21)], [(78, some 22), (77, some 21)], [(79, some 23), (77, some 21)], [(80, some 24), (77, some 21)], [(77, some 21), (81, some 25)], [(0, none)], [(83, some 27)], [(84, some 28)], [(85, some 29)], [(86, some 30)], [(87, some 31)], [(0, none)], [(89, some 33)], [(90, some 34)], [(91, some 35)], [(0, none)], [(93, some 37)], [(94, some 38)], [(95, some 39)], [(0, none)], [(97, some 41)], [(0, none)], [(99, some 43)], [(56, some 0), (57, some 1), (61, some 5), (71, some 15), (82, some 26), (88, some 32), (92, some 36), (96, some 40), (98, some 42), (100, some 44)], [], []] [?b50_0, ?b50_1, ?b50_2, ?b50_3, ?b50_4, ?b50_5, ?b50_6, ?b50_7, ?b50_8, ?b50_9, ?b50_10, ?b50_11, ?b50_12, ?b50_13, ?b50_14, ?b50_15, ?b50_16, ?b50_17, ?b50_18, ?b50_19, ?b50_20, ?b50_20, ?b50_22, ?b50_23, ?b50_24, ?b50_25, ?b50_26, ?b50_27, ?b50_28, ?b50_29, ?b50_30, ?b50_31, ?b50_32, ?b50_33, ?b50_34, ?b50_35, ?b50_36, ?b50_37, ?b50_38, ?b50_39, ?b50_40, ?b50_41, ?b50_42, ?b50_43, ?b50_44, ?b50_45, VP.top, VP.top] (by kernel_rfl) rfl (by kernel_rfl) hr ?t50 ?o50 ?_
             case o50 =>
              refine lc0 (fun A W hx hf => ?_) ?_
              exact ok_movE (a0 := a43) (r0 hf)
              refine lc0 (fun A W hx hf => ?_) ?_
              exact ok_movE (a0 := a43) (r0 hf)
              refine lc0 (fun A W hx hf => ?_) ?_
              exact ok_movE (a0 := a43) (r0 hf)
              refine lc0 (fun A W hx hf => ?_) ?_
              exact ok_index_bs (1) Try.underlying22 size5 (p2 s0 e_w hx (q0 ?b50_2 A W 58 hf)) (ec A (.int .i64 1)) (by first | omega | decide | (simp; done) | (simp; omega))
              refine lc0 (fun A W hx hf => ?_) ?_
              exact ok_loadp Try.underlying5 rfl (q0 ?b50_3 A W 59 hf)
              refine lc0 (fun A W hx hf => ?_) ?_
              exact ok_convB Try.underlying5 Try.underlying3 (by decide) (q0 ?b50_4 A W 60 hf)
              refine lc0 (fun A W hx hf => ?_) ?_
              exact ok_movE (a0 := a43) (r0 hf)
              refine lc0 (fun A W hx hf => ?_) ?_
              exact ok_index_bs (4) Try.underlying22 size5 (p2 s0 e_w hx (q0 ?b50_6 A W 62 hf)) (ec A (.int .i64 4)) (by first | omega | decide | (simp; done) | (simp; omega))
              refine lc0 (fun A W hx hf => ?_) ?_
              exact ok_loadp Try.underlying5 rfl (q0 ?b50_7 A W 63 hf)
              refine lc0 (fun A W hx hf => ?_) ?_
              exact ok_convB Try.underlying5 Try.underlying3 (by decide) (q0 ?b50_8 A W 64 hf)
              refine lc0 (fun A W hx hf => ?_) ?_
              exact ok_mulI (ec A (.int .i64 256)) (q0 ?b50_9 A W 65 hf) (by omega)
              refine lc0 (fun A W hx hf => ?_) ?_
              exact ok_movE (a0 := a43) (r0 hf)
              refine lc0 (fun A W hx hf => ?_) ?_
              exact ok_index_bs (5) Try.underlying22 size5 (p2 s0 e_w hx (q0 ?b50_11 A W 67 hf)) (ec A (.int .i64 5)) (by first | omega | decide | (simp; done) | (simp; omega))
              refine lc0 (fun A W hx hf => ?_) ?_
              exact ok_loadp Try.underlying5 rfl (q0 ?b50_12 A W 68 hf)
              refine lc0 (fun A W hx hf => ?_) ?_
              exact ok_convB Try.underlying5 Try.underlying3 (by decide) (q0 ?b50_13 A W 69 hf)
              refine lc0 (fun A W hx hf => ?_) ?_
              exact ok_addI (q0 ?b50_10 A W 66 hf) (q1 ?b50_14 A W 70 hf) (by omega)
              refine lc0 (fun A W hx hf => ?_) ?_
              exact ok_movE (a0 := a43) (r0 hf)
              refine lc0 (fun A W hx hf => ?_) ?_
              exact ok_index_bs (6) Try.underlying22 size5 (p2 s0 e_w hx (q0 ?b50_16 A W 72 hf)) (ec A (.int .i64 6)) (by first | omega | decide | (simp; done) | (simp; omega))
              refine lc0 (fun A W hx hf => ?_) ?_
              exact ok_loadp Try.underlying5 rfl (q0 ?b50_17 A W 73 hf)
              refine lc0 (fun A W hx hf => ?_) ?_
              exact ok_rem (by decide) (q0 ?b50_18 A W 74 hf) (ec A (.int .u8 64))
              refine lc0 (fun A W hx hf => ?_) ?_
              exact ok_neq (q0 ?b50_19 A W 75 hf) (ec A (.int .u8 0))
              refine lc0 (fun A W hx hf => ?_) ?_
              exact ok_move (q0 ?b50_20 A W 76 hf)
              refine lcg 77 ?_ (fun A W hx hf => ?_) ?_
              rfl
              exact gd_f (q1 ?b50_20 A W 77 hf) (fun hc => ok_movE (a0 := a43) (r0 hf))
              refine lcg 77 ?_ (fun A W hx hf => ?_) ?_
              rfl
              exact gd_f (q1 ?b50_20 A W 77 hf) (fun hc => ok_index_bs (7) Try.underlying22 size5 (p2 s0 e_w hx (G.get (q0 ?b50_22 A W 78 hf) hc)) (ec A (.int .i64 7)) (by first | omega | decide | (simp; done) | (simp; omega)))
              refine lcg 77 ?_ (fun A W hx hf => ?_) ?_
              rfl
              exact gd_f (q1 ?b50_20 A W 77 hf) (fun hc => ok_loadp Try.underlying5 rfl (G.get (q0 ?b50_23 A W 79 hf) hc))
              refine lcg 77 ?_ (fun A W hx hf => ?_) ?_
              rfl
              exact gd_f (q1 ?b50_20 A W 77 hf) (fun hc => ok_neq (G.get (q0 ?b50_24 A W 80 hf) hc) (ec A (.int .u8 0)))
              refine lc0 (fun A W hx hf => ?_) ?_
              exact ok_or (q0 ?b50_20 A W 77 hf) (q1 ?b50_25 A W 81 hf)
              refine lc0 (fun A W hx hf => ?_) ?_
              exact ok_movE (a0 := a43) (r0 hf)
              refine lc0 (fun A W hx hf => ?_) ?_
              exact ok_index_bs (6) Try.underlying22 size5 (p2 s0 e_w hx (q0 ?b50_27 A W 83 hf)) (ec A (.int .i64 6)) (by first | omega | decide | (simp; done) | (simp; omega))
              refine lc0 (fun A W hx hf => ?_) ?_
              exact ok_loadp Try.underlying5 rfl (q0 ?b50_28 A W 84 hf)
              refine lc0 (fun A W hx hf => ?_) ?_
              exact ok_quo (by decide) (q0 ?b50_29 A W 85 hf) (ec A (.int .u8 64))
              refine lc0 (fun A W hx hf => ?_) ?_
              exact ok_rem (by decide) (q0 ?b50_30 A W 86 hf) (ec A (.int .u8 2))
              refine lc0 (fun A W hx hf => ?_) ?_
              exact ok_eql (q0 ?b50_31 A W 87 hf) (ec A (.int .u8 1))
              refine lc0 (fun A W hx hf => ?_) ?_
              exact ok_movE (a0 := a43) (r0 hf)
              refine lc0 (fun A W hx hf => ?_) ?_
              exact ok_index_bs (8) Try.underlying22 size5 (p2 s0 e_w hx (q0 ?b50_33 A W 89 hf)) (ec A (.int .i64 8)) (by first | omega | decide | (simp; done) | (simp; omega))
              refine lc0 (fun A W hx hf => ?_) ?_
              exact ok_loadp Try.underlying5 rfl (q0 ?b50_34 A W 90 hf)
              refine lc0 (fun A W hx hf => ?_) ?_
              exact ok_convB Try.underlying5 Try.underlying3 (by decide) (q0 ?b50_35 A W 91 hf)
              refine lc0 (fun A W hx hf => ?_) ?_
              exact ok_movE (a0 := a43) (r0 hf)
              refine lc0 (fun A W hx hf => ?_) ?_
              exact ok_index_bs (9) Try.underlying22 size5 (p2 s0 e_w hx (q0 ?b50_37 A W 93 hf)) (ec A (.int .i64 9)) (by first | omega | decide | (simp; done) | (simp; omega))
              refine lc0 (fun A W hx hf => ?_) ?_
              exact ok_loadp Try.underlying5 rfl (q0 ?b50_38 A W 94 hf)
              refine lc0 (fun A W hx hf => ?_) ?_
              exact ok_convB Try.underlying5 Try.underlying3 (by decide) (q0 ?b50_39 A W 95 hf)
              refine lc0 (fun A W hx hf => ?_) ?_
              exact ok_movE (a0 := a43) (r0 hf)
              refine lc0 (fun A W hx hf => ?_) ?_
              exact ok_call2 body21 (c_r8addr (p2 s0 e_w hx (q0 ?b50_41 A W 97 hf)) (show Is (.int .i64 12) (A.eval (.const (.int .i64 12))) _ from rfl) (by decide) (by first | omega | (show 16 ≤ _; omega) | (show 20 ≤ _; omega)))
              refine lc0 (fun A W hx hf => ?_) ?_
              exact ok_movE (a0 := a43) (r0 hf)
              refine lc0 (fun A W hx hf => ?_) ?_
              exact ok_call2 body21 (c_r8addr (p2 s0 e_w hx (q0 ?b50_43 A W 99 hf)) (show Is (.int .i64 16) (A.eval (.const (.int .i64 16))) _ from rfl) (by decide) (by first | omega | (show 16 ≤ _; omega) | (show 20 ≤ _; omega)))
              refine lc0 (fun A W hx hf => ?_) ?_
              exact ok_buildS [(0, (.tmp 56)), (1, (.tmp 57)), (2, (.tmp 61)), (3, (.tmp 71)), (4, (.tmp 82)), (5, (.tmp 88)), (6, (.tmp 92)), (7, (.tmp 96)), (8, (.tmp 98)), (9, (.tmp 100))] [(0, _), (1, _), (2, _), (3, _), (4, _), (5, _), (6, _), (7, _), (8, _), (9, _)] lay28 rfl (PartsC.one (p2 s4 e_w11 hx (q0 ?b50_0 A W 56 hf)) rfl (PartsC.one (p2 s5 e_w27 hx (q1 ?b50_1 A W 57 hf)) rfl (PartsC.one (q2 ?b50_5 A W 61 hf) rfl (PartsC.one (q3 ?b50_15 A W 71 hf) rfl (PartsC.one (q4 ?b50_26 A W 82 hf) rfl (PartsC.one (q5 ?b50_32 A W 88 hf) rfl (PartsC.one (q6 ?b50_36 A W 92 hf) rfl (PartsC.one (q7 ?b50_40 A W 96 hf) rfl (PartsC.agg (q8 ?b50_42 A W 98 hf) (PartsC.agg (q9 ?b50_44 A W 100 hf) (PartsC.nil))))))))))) (by simp [adrCells_len (adr4_len (l := l) (i := 12) (by omega)), adrCells_len (adr4_len (l := l) (i := 16) (by omega))])
              refine lcs ?_
              refine lcs ?_
              exact lcn
             case t50 => repeat (first | exact stb_nil | refine stb_cons ?_)
             clear hr; intro a51 w51 x hr hd hs
             have u56 := mv s4 (fa ?b50_0 a51 w51 56 (hd 0 56 rfl rfl))
             have u57 := mv s5 (fa ?b50_1 a51 w51 57 (hd 1 57 rfl rfl))
             have u58 := mv s0 (fa ?b50_2 a51 w51 58 (hd 2 58 rfl rfl))
             have u62 := mv s0 (fa ?b50_6 a51 w51 62 (hd 6 62 rfl rfl))
             have u67 := mv s0 (fa ?b50_11 a51 w51 67 (hd 11 67 rfl rfl))
             have u72 := mv s0 (fa ?b50_16 a51 w51 72 (hd 16 72 rfl rfl))
             have u83 := mv s0 (fa ?b50_27 a51 w51 83 (hd 27 83 rfl rfl))
             have u89 := mv s0 (fa ?b50_33 a51 w51 89 (hd 33 89 rfl rfl))
             have u93 := mv s0 (fa ?b50_37 a51 w51 93 (hd 37 93 rfl rfl))
             have u97 := mv s0 (fa ?b50_41 a51 w51 97 (hd 41 97 rfl rfl))
             have u99 := mv s0 (fa ?b50_43 a51 w51 99 (hd 43 99 rfl rfl))
             revert s0 s2 s4 s5; refine kp4 hs rfl ?_; intro s0 s2 s4 s5
             clear s54
             have s56 := u56; clear u56
             have s57 := u57; clear u57
             have s58 := u58; clear u58
             have s62 := u62; clear u62
             have s67 := u67; clear u67
             have s72 := u72; clear u72
             have s83 := u83; clear u83
             have s89 := u89; clear u89
             have s93 := u93; clear u93
             have s97 := u97; clear u97
             have s99 := u99; clear u99
             have s59 := fa ?b50_3 a51 w51 59 (hd 3 59 rfl rfl)
             have s60 := fa ?b50_4 a51 w51 60 (hd 4 60 rfl rfl)
             have s61 := fa ?b50_5 a51 w51 61 (hd 5 61 rfl rfl)
             have s63 := fa ?b50_7 a51 w51 63 (hd 7 63 rfl rfl)
             have s64 := fa ?b50_8 a51 w51 64 (hd 8 64 rfl rfl)
             have s65 := fa ?b50_9 a51 w51 65 (hd 9 65 rfl rfl)
             have s66 := fa ?b50_10 a51 w51 66 (hd 10 66 rfl rfl)
             have s68 := fa ?b50_12 a51 w51 68 (hd 12 68 rfl rfl)
             have s69 := fa ?b50_13 a51 w51 69 (hd 13 69 rfl rfl)
             have s70 := fa ?b50_14 a51 w51 70 (hd 14 70 rfl rfl)
             have s71 := fa ?b50_15 a51 w51 71 (hd 15 71 rfl rfl)
             have s73 := fa ?b50_17 a51 w51 73 (hd 17 73 rfl rfl)
             have s74 := fa ?b50_18 a51 w51 74 (hd 18 74 rfl rfl)
             have s75 := fa ?b50_19 a51 w51 75 (hd 19 75 rfl rfl)
             have s76 := fa ?b50_20 a51 w51 76 (hd 20 76 rfl rfl)
             have s77 := fa ?b50_20 a51 w51 77 (hd 21 77 rfl rfl)
             have s78 := fa ?b50_22 a51 w51 78 (hd 22 78 rfl rfl)
             have s79 := fa ?b50_23 a51 w51 79 (hd 23 79 rfl rfl)
             have s80 := fa ?b50_24 a51 w51 80 (hd 24 80 rfl rfl)
             have s81 := fa ?b50_25 a51 w51 81 (hd 25 81 rfl rfl)
             have s82 := fa ?b50_26 a51 w51 82 (hd 26 82 rfl rfl)
             have s84 := fa ?b50_28 a51 w51 84 (hd 28 84 rfl rfl)
             have s85 := fa ?b50_29 a51 w51 85 (hd 29 85 rfl rfl)
             have s86 := fa ?b50_30 a51 w51 86 (hd 30 86 rfl rfl)
             have s87 := fa ?b50_31 a51 w51 87 (hd 31 87 rfl rfl)
             have s88 := fa ?b50_32 a51 w51 88 (hd 32 88 rfl rfl)
             have s90 := fa ?b50_34 a51 w51 90 (hd 34 90 rfl rfl)
             have s91 := fa ?b50_35 a51 w51 91 (hd 35 91 rfl rfl)
             have s92 := fa ?b50_36 a51 w51 92 (hd 36 92 rfl rfl)
             have s94 := fa ?b50_38 a51 w51 94 (hd 38 94 rfl rfl)
             have s95 := fa ?b50_39 a51 w51 95 (hd 39 95 rfl rfl)
             have s96 := fa ?b50_40 a51 w51 96 (hd 40 96 rfl rfl)
             have s98 := fa ?b50_42 a51 w51 98 (hd 42 98 rfl rfl)
             have s100 := fa ?b50_44 a51 w51 100 (hd 44 100 rfl rfl)
             have s101 := fa ?b50_45 a51 w51 101 (hd 45 101 rfl rfl)
             replace e_w := e_w.trans x
             replace e_w2 := e_w2.trans x
             replace e_w11 := e_w11.trans x
             replace e_w27 := e_w27.trans x
             clear e_w43
             clear hd hs x
             show wpList _ _ _ [_, _] _ _
             have z52 := PxS.lt (later e_w2 s2)
             have l52 := (show (g2_2 = 0 ∨ w.heap.size < g2_2) ∧ True from ⟨by omega, trivial⟩)
             refine wl_storeSn hr size28 (later e_w2 s2) (Is.conv s101 (rfour_built e1 e4 e5 e6 e7 e8 e9 w6)) (by exact four_len ⟨adr4_len (by show 16 ≤ _; omega), adr4_len (by show 20 ≤ _; omega)⟩) (by exact four_one) rfl ?_; clear hr; intro a52 w52 hc hu hr hs
             have hb : Below w.heap.size w51 w52 := hc.below e_w.size l52.1
             revert s2; refine kp1 hs rfl ?_; intro s2
             clear s0 s4 s5 s56 s57 s58 s62 s67 s72 s83 s89 s93 s97 s99 s59 s60 s61 s63 s64 s65 s66 s68 s69 s70 s71 s73 s74 s75 s76 s77 s78 s79 s80 s81 s82 s84 s85 s86 s87 s88 s90 s91 s92 s94 s95 s96 s98 s100 s101
             replace s2 := hu _ _ _ (later e_w2 s2)
             try simp only [List.set_cons_zero, List.set_cons_succ] at s2
             replace e_w := e_w.below (Nat.le_refl _) hb
             clear e_w2
             clear e_w11
             clear e_w27
             clear hu hs hc hb
             refine wl_op hr (ok_assignc) inferInstance ?_; clear hr; intro a53 w53 x hr hd hs
             revert s2; refine kp1 hs rfl ?_; intro s2
             have s3 := hd 3 rfl (by decide)
             replace e_w := e_w.trans x
             have e_w52 := x
             clear hd hs x
             refine wpList_nil ?_
             refine exit_then ?_
             refine wp_ret ?_
             refine ret_cell_tmp Try.results11 hr Try.underlying28 rfl size28 (later e_w52 s2) e_w ?_
             (rw [hrd]; exact ⟨_, _, rfl, rfl, s3⟩)

end Go.Proofs.Ytehhjmcdpcilfaa
