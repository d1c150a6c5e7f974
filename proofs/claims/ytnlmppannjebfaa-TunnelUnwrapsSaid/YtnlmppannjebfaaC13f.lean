import Derived.Test.YtnlmppannjebfaaC13e
import Derived.Test.YtnlmppannjebfaaC11
import Derived.Test.YtnlmppannjebfaaC07
import Derived.Test.YtnlmppannjebfaaC07
import Derived.Test.YtnlmppannjebfaaC08
import Derived.Test.YtnlmppannjebfaaC09f
namespace Go.Proofs.Ytnlmppannjebfaa
open Go.RowKit
set_option linter.unusedVariables false
set_option linter.unusedSimpArgs false
set_option maxRecDepth 4000
def D_c_r13Wrap_0 : List Tmp := [16]
set_option maxHeartbeats 1000000 in
theorem c_r13Wrap {x0 x1 x2 : Value} {w : World} {l : List UInt8} {Sa Da : Adr} {B : Nat} (h0 : (Bs l) x0 w) (h1 : (Is (AdrV Sa)) x1 w) (h2 : (Is (AdrV Da)) x2 w) (hA : Sa.b.length = 16) (hD : Da.b.length = 16) (hn9 : l.length ≤ 900000) (hB : B ≤ w.heap.size) :
    Calls Try.prog 11 #[x0, x1, x2] w (Ret (Tup2 (OwnB B 5 (wrapR l Sa Da).1) (Is (.int .i64 (wrapR l Sa Da).2))) w) := by
 have hlen := Bs.len_le h0
 refine enter Try.func11 rfl Try.ntmps11 (k := 3) rfl (by decide) (fun a0 hr hargs => ?_)
 have s0 := sarg h0 (hargs 0 (by decide))
 have s1 := sarg h1 (hargs 1 (by decide))
 have s2 := sarg h2 (hargs 2 (by decide))
 clear hargs
 refine wp_seq ?_
 refine wp_reg 91 [[(1, none)], [(2, none)], [], []] [?b1_0, ?b1_1, ?b1_2, ?b1_3] mixed hr ?t1 ?o1 ?_
 case o1 =>
  refine oc0 (fun A W hx hf => ?_) ?_
  exact ok_boxS [[.bool Sa.six], Sa.b.map byteV] [1, 16] (Is.conv (o1 s1 hx (r0 hf)) (adr_seg Sa).symm) (by simp [*]) hx.size
  refine oc0 (fun A W hx hf => ?_) ?_
  exact ok_boxS [[.bool Da.six], Da.b.map byteV] [1, 16] (Is.conv (o1 s2 hx (r0 hf)) (adr_seg Da).symm) (by simp [*]) hx.size
  refine oc0 (fun A W hx hf => ?_) ?_
  exact ok_assignv (OwnBA 0 w.heap.size 5 []) (fun _ => ownBA_nil)
  refine oc0 (fun A W hx hf => ?_) ?_
  exact ok_assignc
  exact OpsOk.nil
 case t1 => exact inferInstance
 clear hr; intro a2 w2 x hr hd hs
 revert s0; refine kp1 hs rfl ?_; intro s0
 clear s1 s2
 have s4 := fa ?b1_0 a2 w2 4 (hd 0 4 rfl)
 have s5 := fa ?b1_1 a2 w2 5 (hd 1 5 rfl)
 obtain ⟨g2_4, q2_4⟩ := PxN.at s4; clear s4; have n2_4 := PxS.lt q2_4
 have s4 := q2_4; clear q2_4
 obtain ⟨g2_5, q2_5⟩ := PxN.at s5; clear s5; have n2_5 := PxS.lt q2_5
 have s5 := q2_5; clear q2_5
 have e_w := x
 clear hd hs x
 refine exit_then ?_
 refine wp_seq ?_
 refine wp_reg_pre (l := [_, _, _, _, _]) (rest := [_, _, _]) 91 [[(0, none)], [(20, some 0)], [(21, some 1)], [(19, some 2)], [(19, some 2)]] [?b3_0, ?b3_1, ?b3_1, ?b3_3, ?b3_4] hr ?t3 ?o3 ?_
 case o3 =>
  refine oc0 (fun A W hx hf => ?_) ?_
  exact ok_movE (a0 := a2) (r0 hf)
  refine oc0 (fun A W hx hf => ?_) ?_
  exact ok_call1 body15 (c_r7Read (p2 s0 e_w hx (q0 ?b3_0 A W 20 hf)) (by omega) hx.size)
  refine oc0 (fun A W hx hf => ?_) ?_
  exact ok_move (q0 ?b3_1 A W 21 hf)
  refine oc0 (fun A W hx hf => ?_) ?_
  exact ok_ext0 (q0 ?b3_1 A W 19 hf)
  refine oc0 (fun A W hx hf => ?_) ?_
  exact ok_ext1 (q0 ?b3_1 A W 19 hf)
  exact OpsOk.nil
 case t3 => exact inferInstance
 clear hr; intro a4 w4 x hr hd hs
 have l4_4 := PxS.lt s4
 have l4_5 := PxS.lt s5
 revert s5; revert s4; revert s0; refine kp3 hs rfl ?_; intro s0 s4 s5
 have s22 := fa ?b3_3 a4 w4 22 (hd 3 22 rfl)
 have s23 := fa ?b3_4 a4 w4 23 (hd 4 23 rfl)
 obtain ⟨svl, s22, gL⟩ := LinkO.open s22; obtain ⟨g4_22, gL⟩ := OwnR.at gL; have n4_22 := OwnRA.lt gL
 replace gL := OwnRA.mono gL e_w.size
 replace e_w := e_w.trans x
 have e_w2 := x
 clear hd hs x
 have l5_4 := PxS.lt (later e_w2 s4)
 have l5_5 := PxS.lt (later e_w2 s5)
 have l5_gL := OwnRA.lt gL
 refine wl_op hr (ok_allocS (lnkS link0 (.slice none 0 0)) [6, 6, 1, 1, 1] zerov41 (by rfl) (by rfl) (Nat.le_refl _)) inferInstance ?_; clear hr; intro a5 w5 x hr hd hs
 revert s22; revert s23; revert s5; revert s4; revert s0; refine kp5 hs rfl ?_; intro s0 s4 s5 s23 s22
 have s8 := hd 8 rfl (by decide)
 obtain ⟨g5_8, q5_8⟩ := PxN.at s8; clear s8; have n5_8 := PxS.lt q5_8
 replace q5_8 := PxS.mono q5_8 e_w.size
 have s8 := q5_8; clear q5_8
 replace e_w := e_w.trans x
 replace e_w2 := e_w2.trans x
 have e_w4 := x
 clear hd hs x
 have z6 := PxS.lt s8
 have l6 := (show (g5_8 = 0 ∨ w.heap.size < g5_8) ∧ True from ⟨by omega, trivial⟩)
 have l6_4 := PxS.lt (later e_w2 s4)
 have l6_5 := PxS.lt (later e_w2 s5)
 have l6_gL := OwnRA.lt (later e_w4 gL)
 refine wl_storeSm (lnkS (cutL l) svl) hr size41 s8 (later e_w4 s22) (by exact lnkS_lens (cutL_ok _)) (by exact lnk_one (rw_one (OwnRA.rw (later e_w4 gL)))) rfl ?_; clear hr; intro a6 w6 hc hu hr hs
 have hb : Below w.heap.size w5 w6 := hc.below e_w.size l6.1
 revert s8; revert s23; revert s5; revert s4; revert s0; refine kp5 hs rfl ?_; intro s0 s4 s5 s23 s8
 clear s22
 replace s4 := PxS.other (later e_w2 s4) hc (by omega)
 replace s5 := PxS.other (later e_w2 s5) hc (by omega)
 replace s8 := hu _ _ _ s8
 try simp only [List.set_cons_zero, List.set_cons_succ, lnkS] at s8
 replace gL := OwnRA.other (later e_w4 gL) hc (by omega)
 replace e_w := e_w.below (Nat.le_refl _) hb
 clear e_w2
 clear e_w4
 replace s23 := anyw (w2 := w6) s23
 clear hu hs hc hb
 refine wl_op hr (ok_assign s23) inferInstance ?_; clear hr; intro a7 w7 x hr hd hs
 revert s8; revert s5; revert s4; revert s0; refine kp4 hs rfl ?_; intro s0 s4 s5 s8
 clear s23
 have s9 := hd 9 rfl (by decide)
 replace e_w := e_w.trans x
 have e_w6 := x
 clear hd hs x
 refine wpList_nil ?_
 refine exit_then ?_
 refine wp_seq ?_
 refine wp_seq ?_
 refine wp_reg 91 [[(9, none)], [(24, some 0)]] [?b8_0, ?b8_1] mixed hr ?t8 ?o8 ?_
 case o8 =>
  refine oc0 (fun A W hx hf => ?_) ?_
  exact ok_movE (a0 := a7) (r0 hf)
  refine oc0 (fun A W hx hf => ?_) ?_
  exact ok_neq (p1 s9 hx (q0 ?b8_0 A W 24 hf)) (ec A (.int .i64 0))
  exact OpsOk.nil
 case t8 => exact inferInstance
 clear hr; intro a9 w9 x hr hd hs
 revert s8; revert s5; revert s4; revert s0; refine kp4 hs rfl ?_; intro s0 s4 s5 s8
 clear s9
 have s25 := fa ?b8_1 a9 w9 25 (hd 1 25 rfl)
 replace e_w := e_w.trans x
 replace e_w6 := e_w6.trans x
 clear hd hs x
 refine exit_then ?_
 refine wp_cond_split (show _ = _ from s25) (fun he => ?_) (fun he => ?_)
 ·
  have he : (linkRead l).2 ≠ 0 := by simpa using he
  have hcn : cutN l = net0 := by unfold cutN; rw [if_neg he]
  have hok : (cutN l).ok = false := by rw [hcn]; rfl
  have hw9 := wrapR_3 (A := Sa) (D := Da) hok
  refine wp_seq ?_
  refine wp_reg 91 [[], []] [?b11_0, ?b11_1] mixed hr ?t11 ?o11 ?_
  case o11 =>
   refine oc0 (fun A W hx hf => ?_) ?_
   exact ok_assignv (OwnBA 0 w.heap.size 5 []) (fun _ => ownBA_nil)
   refine oc0 (fun A W hx hf => ?_) ?_
   exact ok_assignc
   exact OpsOk.nil
  case t11 => exact inferInstance
  clear hr; intro a12 w12 x hr hd hs
  clear s0 s4 s5 s8 s25
  have s6 := fa ?b11_0 a12 w12 6 (hd 0 6 rfl)
  have s7 := fa ?b11_1 a12 w12 7 (hd 1 7 rfl)
  replace e_w := e_w.trans x
  replace e_w6 := e_w6.trans x
  clear hd hs x
  refine exit_then ?_
  refine wp_ret ?_
  refine then_ret ?_
  refine ret_tmp2 Try.results11 hr e_w ?_
  first | (rw [hw9]; exact ⟨_, _, rfl, OwnB.mono s6.own hB, s7⟩)
 ·
  have he : (linkRead l).2 = 0 := by simpa using he
  obtain ⟨y1, y2, y3, y4⟩ := cut_bd l he
  have y5 : (cutL l).at' = (cutA l : Int) := y1.symm
  have hcn : cutN l = netRead (cutL l).type (l.drop (cutA l)) := by unfold cutN; rw [if_pos he]
  have hcp : cutP l = subl l (cutA l) (cutA l + (cutN l).total.toNat) := by unfold cutP; rw [if_pos he]
  have y6 := cut_tot he
  refine wp_skip ?_
  refine exit_then ?_
  refine wp_seq ?_
  refine wp_reg 91 [[(8, none)], [(27, some 0)], [(0, none)], [(8, none)], [(30, some 3)], [(29, some 2), (31, some 4)], [(28, some 1), (32, some 5)], [(33, some 6)], [(26, some 7)], [(26, some 7)], [(26, some 7)], [(26, some 7)], [(26, some 7)], [(34, some 8)], [(35, some 9)], [(36, some 10)], [(37, some 11)], [(38, some 12)]] [?b13_0, ?b13_1, ?b13_2, ?b13_3, ?b13_4, ?b13_5, ?b13_6, ?b13_6, ?b13_8, ?b13_9, ?b13_10, ?b13_11, ?b13_12, ?b13_8, ?b13_9, ?b13_10, ?b13_11, ?b13_12] mixed hr ?t13 ?o13 ?_
  case o13 =>
   refine oc0 (fun A W hx hf => ?_) ?_
   exact ok_fieldS 3 Try.underlying41 (k := 3) rfl size3 rfl (o2 s8 e_w6 hx (r0 hf)) rfl
   refine oc0 (fun A W hx hf => ?_) ?_
   exact ok_loadS Try.underlying3 rfl (q0 ?b13_0 A W 27 hf) rfl
   refine oc0 (fun A W hx hf => ?_) ?_
   exact ok_movE (a0 := a9) (r0 hf)
   refine oc0 (fun A W hx hf => ?_) ?_
   exact ok_fieldS 4 Try.underlying41 (k := 4) rfl size3 rfl (o2 s8 e_w6 hx (r0 hf)) rfl
   refine oc0 (fun A W hx hf => ?_) ?_
   exact ok_loadS Try.underlying3 rfl (q0 ?b13_3 A W 30 hf) rfl
   refine oc0 (fun A W hx hf => ?_) ?_
   exact okW_slice_lo (cutA l) Try.underlying22 size5 (sarg s0 (show _ = _ from (q0 ?b13_2 A W 29 hf))) (Is.int (q1 ?b13_4 A W 31 hf) (by exact y5)) (by omega)
   refine oc0 (fun A W hx hf => ?_) ?_
   exact ok_call2 body16 (c_r13Net (q0 ?b13_1 A W 28 hf) (AtW.now (q1 ?b13_5 A W 32 hf) (e_w.trans hx)) (by simp; omega))
   refine oc0 (fun A W hx hf => ?_) ?_
   exact ok_move (q0 ?b13_6 A W 33 hf)
   refine oc0 (fun A W hx hf => ?_) ?_
   exact ok_ext5_0 (q0 ?b13_6 A W 26 hf)
   refine oc0 (fun A W hx hf => ?_) ?_
   exact ok_ext5_1 (q0 ?b13_6 A W 26 hf)
   refine oc0 (fun A W hx hf => ?_) ?_
   exact ok_ext5_2 (q0 ?b13_6 A W 26 hf)
   refine oc0 (fun A W hx hf => ?_) ?_
   exact ok_ext5_3 (q0 ?b13_6 A W 26 hf)
   refine oc0 (fun A W hx hf => ?_) ?_
   exact ok_ext5_4 (q0 ?b13_6 A W 26 hf)
   refine oc0 (fun A W hx hf => ?_) ?_
   exact ok_assign (q0 ?b13_8 A W 34 hf)
   refine oc0 (fun A W hx hf => ?_) ?_
   exact ok_assign (q0 ?b13_9 A W 35 hf)
   refine oc0 (fun A W hx hf => ?_) ?_
   exact ok_assign (q0 ?b13_10 A W 36 hf)
   refine oc0 (fun A W hx hf => ?_) ?_
   exact ok_assign (q0 ?b13_11 A W 37 hf)
   refine oc0 (fun A W hx hf => ?_) ?_
   exact ok_assign (q0 ?b13_12 A W 38 hf)
   exact OpsOk.nil
  case t13 => exact inferInstance
  clear hr; intro a14 w14 x hr hd hs
  revert s8; revert s5; revert s4; revert s0; refine kp4 hs rfl ?_; intro s0 s4 s5 s8
  clear s25
  have s11 := fa ?b13_9 a14 w14 11 (hd 14 11 rfl)
  have s14 := fa ?b13_12 a14 w14 14 (hd 17 14 rfl)
  replace e_w := e_w.trans x
  replace e_w6 := e_w6.trans x
  clear hd hs x
  replace s11 := Is.conv s11 (show _ = Value.int .i64 (cutN l).total from by rw [hcn])
  replace s14 := Is.conv s14 (show _ = Value.bool (cutN l).ok from by rw [hcn])
  refine exit_then ?_
  refine wp_seq ?_
  refine wp_seq ?_
  refine wp_reg 91 [[(14, none)], [(39, some 0)]] [?b15_0, ?b15_1] mixed hr ?t15 ?o15 ?_
  case o15 =>
   refine oc0 (fun A W hx hf => ?_) ?_
   exact ok_movE (a0 := a14) (r0 hf)
   refine oc0 (fun A W hx hf => ?_) ?_
   exact ok_not (p1 s14 hx (q0 ?b15_0 A W 39 hf))
   exact OpsOk.nil
  case t15 => exact inferInstance
  clear hr; intro a16 w16 x hr hd hs
  revert s11; revert s8; revert s5; revert s4; revert s0; refine kp5 hs rfl ?_; intro s0 s4 s5 s8 s11
  clear s14
  have s40 := fa ?b15_1 a16 w16 40 (hd 1 40 rfl)
  replace e_w := e_w.trans x
  replace e_w6 := e_w6.trans x
  have e_w14 := x
  clear hd hs x
  refine exit_then ?_
  refine wp_cond_split (show _ = _ from s40) (fun hok => ?_) (fun hok => ?_)
  ·
   have hok : (cutN l).ok = false := by simpa using hok
   have hw9 := wrapR_3 (A := Sa) (D := Da) hok
   refine wp_seq ?_
   refine wp_reg 91 [[], []] [?b18_0, ?b18_1] mixed hr ?t18 ?o18 ?_
   case o18 =>
    refine oc0 (fun A W hx hf => ?_) ?_
    exact ok_assignv (OwnBA 0 w.heap.size 5 []) (fun _ => ownBA_nil)
    refine oc0 (fun A W hx hf => ?_) ?_
    exact ok_assignc
    exact OpsOk.nil
   case t18 => exact inferInstance
   clear hr; intro a19 w19 x hr hd hs
   clear s0 s4 s5 s8 s11 s40
   have s6 := fa ?b18_0 a19 w19 6 (hd 0 6 rfl)
   have s7 := fa ?b18_1 a19 w19 7 (hd 1 7 rfl)
   replace e_w := e_w.trans x
   replace e_w6 := e_w6.trans x
   clear e_w14
   clear hd hs x
   refine exit_then ?_
   refine wp_ret ?_
   refine then_ret ?_
   refine ret_tmp2 Try.results11 hr e_w ?_
   first | (rw [hw9]; exact ⟨_, _, rfl, OwnB.mono s6.own hB, s7⟩)
  ·
   have hok : (cutN l).ok = true := by simpa using hok
   obtain ⟨hP, hH20, hHT⟩ := cutP_len hok
   refine wp_skip ?_
   refine exit_then ?_
   refine wp_seq ?_
   refine wp_seq ?_
   refine wp_reg 91 [[(4, none)], [(5, none)], [(41, some 0), (42, some 1)], [(43, some 2)]] [?b20_0, ?b20_1, ?b20_2, ?b20_3] mixed hr ?t20 ?o20 ?_
   case o20 =>
    refine oc0 (fun A W hx hf => ?_) ?_
    exact ok_loadAggS 2 Try.underlying25 rfl size25 (o2 s4 e_w6 hx (r0 hf)) rfl
    refine oc0 (fun A W hx hf => ?_) ?_
    exact ok_loadAggS 2 Try.underlying25 rfl size25 (o2 s5 e_w6 hx (r0 hf)) rfl
    refine oc0 (fun A W hx hf => ?_) ?_
    exact ok_call2 body24 (c_r11Family (Is.conv (q0 ?b20_0 A W 41 hf) (adr_seg Sa)) (Is.conv (q1 ?b20_1 A W 42 hf) (adr_seg Da)) (by exact hA) (by exact hD))
    refine oc0 (fun A W hx hf => ?_) ?_
    exact ok_not (q0 ?b20_2 A W 43 hf)
    exact OpsOk.nil
   case t20 => exact inferInstance
   clear hr; intro a21 w21 x hr hd hs
   revert s11; revert s8; revert s5; revert s4; revert s0; refine kp5 hs rfl ?_; intro s0 s4 s5 s8 s11
   clear s40
   have s44 := fa ?b20_3 a21 w21 44 (hd 3 44 rfl)
   replace e_w := e_w.trans x
   replace e_w6 := e_w6.trans x
   replace e_w14 := e_w14.trans x
   clear hd hs x
   refine exit_then ?_
   refine wp_cond_split (show _ = _ from s44) (fun hf => ?_) (fun hf => ?_)
   ·
    have hf : famB Sa Da = false := by simpa using hf
    have hw9 := wrapR_1 hok hf
    refine wp_seq ?_
    refine wp_reg 91 [[], []] [?b23_0, ?b23_1] mixed hr ?t23 ?o23 ?_
    case o23 =>
     refine oc0 (fun A W hx hf => ?_) ?_
     exact ok_assignv (OwnBA 0 w.heap.size 5 []) (fun _ => ownBA_nil)
     refine oc0 (fun A W hx hf => ?_) ?_
     exact ok_assignc
     exact OpsOk.nil
    case t23 => exact inferInstance
    clear hr; intro a24 w24 x hr hd hs
    clear s0 s4 s5 s8 s11 s44
    have s6 := fa ?b23_0 a24 w24 6 (hd 0 6 rfl)
    have s7 := fa ?b23_1 a24 w24 7 (hd 1 7 rfl)
    replace e_w := e_w.trans x
    replace e_w6 := e_w6.trans x
    clear e_w14
    clear hd hs x
    refine exit_then ?_
    refine wp_ret ?_
    refine then_ret ?_
    refine ret_tmp2 Try.results11 hr e_w ?_
    first | (rw [hw9]; exact ⟨_, _, rfl, OwnB.mono s6.own hB, s7⟩)
   ·
    have hf : famB Sa Da = true := by simpa using hf
    refine wp_skip ?_
    refine exit_then ?_
    refine wp_seq ?_
    refine wp_reg 91 [[(0, none)], [(8, none)], [(46, some 1)], [(8, none)], [(48, some 3)], [(11, none)], [(49, some 4), (50, some 5)], [(45, some 0), (47, some 2), (51, some 6)], [(52, some 7)]] [?b25_0, ?b25_1, ?b25_2, ?b25_3, ?b25_4, ?b25_5, ?b25_6, ?b25_7, ?b25_7] mixed hr ?t25 ?o25 ?_
    case o25 =>
     refine oc0 (fun A W hx hf => ?_) ?_
     exact ok_movE (a0 := a21) (r0 hf)
     refine oc0 (fun A W hx hf => ?_) ?_
     exact ok_fieldS 4 Try.underlying41 (k := 4) rfl size3 rfl (o2 s8 e_w6 hx (r0 hf)) rfl
     refine oc0 (fun A W hx hf => ?_) ?_
     exact ok_loadS Try.underlying3 rfl (q0 ?b25_1 A W 46 hf) rfl
     refine oc0 (fun A W hx hf => ?_) ?_
     exact ok_fieldS 4 Try.underlying41 (k := 4) rfl size3 rfl (o2 s8 e_w6 hx (r0 hf)) rfl
     refine oc0 (fun A W hx hf => ?_) ?_
     exact ok_loadS Try.underlying3 rfl (q0 ?b25_3 A W 48 hf) rfl
     refine oc0 (fun A W hx hf => ?_) ?_
     exact ok_movE (a0 := a21) (r0 hf)
     refine oc0 (fun A W hx hf => ?_) ?_
     exact ok_addI (q0 ?b25_4 A W 49 hf) (p2 s11 e_w14 hx (q1 ?b25_5 A W 50 hf)) (by show (-9223372036854775808 : Int) ≤ (cutL l).at' + (cutN l).total ∧ (cutL l).at' + (cutN l).total ≤ 9223372036854775807; omega)
     refine oc0 (fun A W hx hf => ?_) ?_
     exact okW_slice_lh (cutA l) (cutA l + (cutN l).total.toNat) Try.underlying22 size5 (sarg s0 (show _ = _ from (q0 ?b25_0 A W 45 hf))) (Is.int (q1 ?b25_2 A W 47 hf) (by exact y5)) (Is.int (q2 ?b25_6 A W 51 hf) (by show (cutL l).at' + (cutN l).total = _; omega)) (by omega) (by omega)
     refine oc0 (fun A W hx hf => ?_) ?_
     exact ok_assign (q0 ?b25_7 A W 52 hf)
     exact OpsOk.nil
    case t25 => exact inferInstance
    clear hr; intro a26 w26 x hr hd hs
    revert s11; revert s8; revert s5; revert s4; refine kp4 hs rfl ?_; intro s4 s5 s8 s11
    clear s0 s44
    have s15 := AtW.base (fa ?b25_7 a26 w26 15 (hd 8 15 rfl))
    replace e_w := e_w.trans x
    replace e_w6 := e_w6.trans x
    replace e_w14 := e_w14.trans x
    clear hd hs x
    replace s15 := Bs.cast s15 hcp.symm
    refine exit_then ?_
    refine wp_seq ?_
    refine wp_reg 91 [[]] [?b27_0] mixed hr ?t27 ?o27 ?_
    case o27 =>
     refine oc0 (fun A W hx hf => ?_) ?_
     exact ok_assignc
     exact OpsOk.nil
    case t27 => exact inferInstance
    clear hr; intro a28 w28 x hr hd hs
    revert s15; revert s11; revert s8; revert s5; revert s4; refine kp5 hs rfl ?_; intro s4 s5 s8 s11 s15
    have s16 := fa ?b27_0 a28 w28 16 (hd 0 16 rfl)
    replace e_w := e_w.trans x
    replace e_w6 := e_w6.trans x
    replace e_w14 := e_w14.trans x
    clear hd hs x
    refine exit_then ?_
    refine wp_seq ?_
    refine wp_seq ?_
    refine wp_reg 91 [[(8, none)], [(53, some 0)], [(54, some 1)]] [?b29_0, ?b29_1, ?b29_2] mixed hr ?t29 ?o29 ?_
    case o29 =>
     refine oc0 (fun A W hx hf => ?_) ?_
     exact ok_fieldS 3 Try.underlying41 (k := 3) rfl size3 rfl (o2 s8 e_w6 hx (r0 hf)) rfl
     refine oc0 (fun A W hx hf => ?_) ?_
     exact ok_loadS Try.underlying3 rfl (q0 ?b29_0 A W 53 hf) rfl
     refine oc0 (fun A W hx hf => ?_) ?_
     exact ok_eql (q0 ?b29_1 A W 54 hf) (ec A (.int .i64 34525))
     exact OpsOk.nil
    case t29 => exact inferInstance
    clear hr; intro a30 w30 x hr hd hs
    revert s16; revert s15; revert s11; revert s8; revert s5; revert s4; refine kp6 hs rfl ?_; intro s4 s5 s8 s11 s15 s16
    have s55 := fa ?b29_2 a30 w30 55 (hd 2 55 rfl)
    replace e_w := e_w.trans x
    replace e_w6 := e_w6.trans x
    replace e_w14 := e_w14.trans x
    have e_w28 := x
    clear hd hs x
    refine exit_then ?_
    refine wp_cut (fun A W => Fr 91 A ∧ Same D_c_r13Wrap_0 a30 A ∧ Ext w W ∧ Ext w6 W ∧ Ext w14 W ∧ (Is (.int .i64 (ipip l))) (A.eval (.tmp 16)) W) ?cut31 ?_
    case cut31 =>
     have m31 : Same D_c_r13Wrap_0 a30 a30 := Same.rfl
     refine wp_cond_split (show _ = _ from s55) (fun ht9 => ?_) (fun ht9 => ?_)
     ·
      have ht9 : (cutL l).type = 34525 := by simpa using ht9
      refine wp_reg 91 [[]] [?b33_0] mixed hr ?t33 ?o33 ?_
      case o33 =>
       refine oc0 (fun A W hx hf => ?_) ?_
       exact ok_assignc
       exact OpsOk.nil
      case t33 => exact inferInstance
      clear hr; intro a34 w34 x hr hd hs
      revert s15; revert s11; revert s8; revert s5; revert s4; refine kp5 hs rfl ?_; intro s4 s5 s8 s11 s15
      clear s16 s55
      have s16 := fa ?b33_0 a34 w34 16 (hd 0 16 rfl)
      replace e_w := e_w.trans x
      replace e_w6 := e_w6.trans x
      replace e_w14 := e_w14.trans x
      clear e_w28
      replace m31 := m31.tr hs rfl
      clear hd hs x
      refine exit_then ?_
      refine ⟨hr, m31, e_w, e_w6, e_w14, ?_⟩
      · first | exact Is.int s16 (by unfold ipip; rw [if_pos ht9]) | exact Is.int s16 (by unfold ipip; rw [if_neg ht9])
     ·
      have ht9 : ¬ (cutL l).type = 34525 := by simpa using ht9
      refine wp_skip ?_
      refine exit_then ?_
      refine ⟨hr, m31, e_w, e_w6, e_w14, ?_⟩
      · first | exact Is.int (later e_w28 s16) (by unfold ipip; rw [if_pos ht9]) | exact Is.int (later e_w28 s16) (by unfold ipip; rw [if_neg ht9])
    intro a31 w31 hI
    clear e_w
    clear e_w6
    clear e_w14
    clear e_w28
    clear hr; obtain ⟨hr, hs, e_w, e_w6, e_w14, u16⟩ := hI
    revert s15; revert s11; revert s8; revert s5; revert s4; refine kp5 hs rfl ?_; intro s4 s5 s8 s11 s15
    clear s16 s55
    have s16 := u16; clear u16
    clear hs
    refine wp_seq ?_
    refine wp_seq ?_
    refine wp_reg 91 [[(4, none)], [(56, some 0)]] [?b35_0, ?b35_1] mixed hr ?t35 ?o35 ?_
    case o35 =>
     refine oc0 (fun A W hx hf => ?_) ?_
     exact ok_fieldS 0 Try.underlying25 (k := 0) rfl size4 rfl (o2 s4 e_w6 hx (r0 hf)) rfl
     refine oc0 (fun A W hx hf => ?_) ?_
     exact ok_loadS Try.underlying4 rfl (q0 ?b35_0 A W 56 hf) rfl
     exact OpsOk.nil
    case t35 => exact inferInstance
    clear hr; intro a36 w36 x hr hd hs
    revert s16; revert s15; revert s11; revert s8; revert s5; revert s4; refine kp6 hs rfl ?_; intro s4 s5 s8 s11 s15 s16
    have s57 := fa ?b35_1 a36 w36 57 (hd 1 57 rfl)
    replace e_w := e_w.trans x
    replace e_w6 := e_w6.trans x
    replace e_w14 := e_w14.trans x
    have e_w31 := x
    clear hd hs x
    refine exit_then ?_
    refine wp_cond_split (show _ = _ from s57) (fun h6 => ?_) (fun h6 => ?_)
    ·
     skip
     refine wp_seq ?_
     refine wp_seq ?_
     refine wp_reg 91 [[(11, none)], [(58, some 0)]] [?b38_0, ?b38_1] mixed hr ?t38 ?o38 ?_
     case o38 =>
      refine oc0 (fun A W hx hf => ?_) ?_
      exact ok_movE (a0 := a36) (r0 hf)
      refine oc0 (fun A W hx hf => ?_) ?_
      exact ok_gtr (p2 s11 e_w14 hx (q0 ?b38_0 A W 58 hf)) (ec A (.int .i64 65535))
      exact OpsOk.nil
     case t38 => exact inferInstance
     clear hr; intro a39 w39 x hr hd hs
     revert s16; revert s15; revert s11; revert s8; revert s5; revert s4; refine kp6 hs rfl ?_; intro s4 s5 s8 s11 s15 s16
     clear s57
     have s59 := fa ?b38_1 a39 w39 59 (hd 1 59 rfl)
     replace e_w := e_w.trans x
     replace e_w6 := e_w6.trans x
     replace e_w14 := e_w14.trans x
     replace e_w31 := e_w31.trans x
     clear hd hs x
     refine exit_then ?_
     refine wp_cond_split (show _ = _ from s59) (fun hb => ?_) (fun hb => ?_)
     ·
      have hb : (cutN l).total > 65535 := by simpa using hb
      have hw9 := wrapR_64 hok hf h6 hb
      refine wp_seq ?_
      refine wp_reg 91 [[], []] [?b41_0, ?b41_1] mixed hr ?t41 ?o41 ?_
      case o41 =>
       refine oc0 (fun A W hx hf => ?_) ?_
       exact ok_assignv (OwnBA 0 w.heap.size 5 []) (fun _ => ownBA_nil)
       refine oc0 (fun A W hx hf => ?_) ?_
       exact ok_assignc
       exact OpsOk.nil
      case t41 => exact inferInstance
      clear hr; intro a42 w42 x hr hd hs
      clear s4 s5 s8 s11 s15 s16 s59
      have s6 := fa ?b41_0 a42 w42 6 (hd 0 6 rfl)
      have s7 := fa ?b41_1 a42 w42 7 (hd 1 7 rfl)
      replace e_w := e_w.trans x
      replace e_w6 := e_w6.trans x
      clear e_w14
      clear e_w31
      clear hd hs x
      refine exit_then ?_
      refine wp_ret ?_
      refine then_ret ?_
      refine then_ret ?_
      refine ret_tmp2 Try.results11 hr e_w ?_
      first | (rw [hw9]; exact ⟨_, _, rfl, OwnB.mono s6.own hB, s7⟩)
     ·
      have hb : ¬ (cutN l).total > 65535 := by simpa using hb
      have hw9 := wrapR_6 hok hf h6 hb
      have hpl9 := sixPut_len (H := six40 (wrapT l Sa Da) (cutN l).total) ⟨hA, hD⟩
      have hpr := cut_right hok true
      have hpt := linkPut_len (L := typedL (cutL l) true) (cutL_ok l)
      have hpt2 := (linkRight_bd hpr).1
      have hpc : (cutP l).length ≤ 65535 := by omega
      refine wp_skip ?_
      refine exit_then ?_
      refine wp_seq ?_
      refine wp_reg_pre (l := [_]) (rest := [_]) 91 [[(8, none)]] [?b43_0] hr ?t43 ?o43 ?_
      case o43 =>
       refine oc0 (fun A W hx hf => ?_) ?_
       exact ok_fieldS 3 Try.underlying41 (k := 3) rfl size3 rfl (o2 s8 e_w6 hx (r0 hf)) rfl
       exact OpsOk.nil
      case t43 => exact inferInstance
      clear hr; intro a44 w44 x hr hd hs
      revert s16; revert s15; revert s11; revert s8; revert s5; revert s4; refine kp6 hs rfl ?_; intro s4 s5 s8 s11 s15 s16
      clear s59
      have s60 := fa ?b43_0 a44 w44 60 (hd 0 60 rfl)
      replace e_w := e_w.trans x
      replace e_w6 := e_w6.trans x
      replace e_w14 := e_w14.trans x
      replace e_w31 := e_w31.trans x
      clear hd hs x
      have z45 := PxS.lt s60
      have l45 := (show (g5_8 = 0 ∨ w.heap.size < g5_8) ∧ True from ⟨by omega, trivial⟩)
      have l45_4 := PxS.lt (later e_w6 s4)
      have l45_5 := PxS.lt (later e_w6 s5)
      have l45_gL := OwnRA.lt (later e_w6 gL)
      refine wl_storeS hr size3 s60 (ec a44 (.int .i64 34525)) (by rfl) rfl ?_; clear hr; intro a45 w45 hc hu hr hs
      have hb : Below w.heap.size w44 w45 := hc.below e_w.size l45.1
      revert s16; revert s15; revert s11; revert s8; revert s5; revert s4; refine kp6 hs rfl ?_; intro s4 s5 s8 s11 s15 s16
      clear s60
      replace s4 := PxS.other (later e_w6 s4) hc (by omega)
      replace s5 := PxS.other (later e_w6 s5) hc (by omega)
      replace s8 := hu _ _ _ (later e_w6 s8)
      try simp only [List.set_cons_zero, List.set_cons_succ, lnkS] at s8
      replace gL := OwnRA.other (later e_w6 gL) hc (by omega)
      replace e_w := e_w.below (Nat.le_refl _) hb
      clear e_w6
      clear e_w14
      clear e_w31
      replace s11 := anyw (w2 := w45) s11
      replace s16 := anyw (w2 := w45) s16
      clear hu hs hc hb
      refine wpList_nil ?_
      replace s8 := PxS.cast s8 (show _ = lnkS (typedL (cutL l) true) svl from rfl)
      refine exit_then ?_
      refine wp_seq ?_
      refine wp_any_start mixed (fun w46 x => ?_)
      show wpAny _ _ _ _ 11 _ _ _
      replace e_w := e_w.trans x
      have e_w45 := x
      clear x
      refine wp_sel (l := [_, _, _, _, _, _, _, _, _, _, _]) 91 _ [false, false, false, false, false, false, false, false, false, true, true] [9, 10] [[(8, none)], [(61, some 0)], [(11, none)], [(63, some 2)], [(16, none)], [(4, none)], [(5, none)], [(64, some 3), (65, some 4), (66, some 5), (67, some 6)], [(68, some 7)], [], []] [?b47_0, ?b47_1, ?b47_2, ?b47_3, ?b47_4, ?b47_5, ?b47_6, ?b47_7, ?b47_8, VP.top, VP.top] (by kernel_rfl) rfl (by kernel_rfl) hr ?t47 ?o47 ?_
      case o47 =>
       refine lc0 (fun A W hx hf => ?_) ?_
       exact ok_loadAggS 5 Try.underlying41 rfl size41 (o2 s8 e_w45 hx (r0 hf)) rfl
       refine lc0 (fun A W hx hf => ?_) ?_
       exact ok_call1 body25 (c_r7Put (LinkV.of (show Is (LnkA (typedL (cutL l) true) svl) _ _ from (q0 ?b47_0 A W 61 hf)) (OwnRA.rw (later (e_w45.trans hx) gL))) (by exact cutL_ok l) (by exact hpr) hx.size)
       refine lc0 (fun A W hx hf => ?_) ?_
       exact ok_movE (a0 := a45) (r0 hf)
       refine lc0 (fun A W hx hf => ?_) ?_
       exact ok_addI (ec A (.int .i64 40)) (p2 s11 e_w45 hx (q0 ?b47_2 A W 63 hf)) (by omega)
       refine lc0 (fun A W hx hf => ?_) ?_
       exact ok_movE (a0 := a45) (r0 hf)
       refine lc0 (fun A W hx hf => ?_) ?_
       exact ok_loadAggS 2 Try.underlying25 rfl size25 (o2 s4 e_w45 hx (r0 hf)) rfl
       refine lc0 (fun A W hx hf => ?_) ?_
       exact ok_loadAggS 2 Try.underlying25 rfl size25 (o2 s5 e_w45 hx (r0 hf)) rfl
       refine lc0 (fun A W hx hf => ?_) ?_
       exact ok_buildS [(0, (.const (.int .i64 40))), (1, (.tmp 64)), (2, (.const (.int .i64 64))), (5, (.tmp 65)), (6, (.tmp 66)), (7, (.tmp 67))] [(0, _), (1, _), (2, _), (5, _), (6, _), (7, _)] lay60 rfl (PartsC.one (ec A (.int .i64 40)) rfl (PartsC.one (q0 ?b47_3 A W 64 hf) rfl (PartsC.one (ec A (.int .i64 64)) rfl (PartsC.one (p2 s16 e_w45 hx (q1 ?b47_4 A W 65 hf)) rfl (PartsC.agg (q2 ?b47_5 A W 66 hf) (PartsC.agg (q3 ?b47_6 A W 67 hf) (PartsC.nil))))))) (by simp [hA, hD])
       refine lc0 (fun A W hx hf => ?_) ?_
       exact ok_call1 body26 (c_r9Put (Is.conv (q0 ?b47_7 A W 68 hf) (show _ = SixV (six40 (wrapT l Sa Da) (cutN l).total) from by simp [SixV, sixS, six40, wrapT, adrCells, setAll])) (by exact ⟨hA, hD⟩) (by show (40 : Int) ≤ 40 + (cutN l).total ∧ 40 + (cutN l).total ≤ 65575; omega) hx.size)
       refine lcs ?_
       refine lcs ?_
       exact lcn
      case t47 => exact inferInstance
      clear hr; intro a48 w48 x hr hd hs
      have z_w_w46 := e_w.size
      have z_w45_w46 := e_w45.size
      have l48_4 := PxS.lt (later e_w45 s4)
      have l48_5 := PxS.lt (later e_w45 s5)
      have l48_8 := PxS.lt (later e_w45 s8)
      have l48_gL := OwnRA.lt (later e_w45 gL)
      have u63 := mv s11 (fa ?b47_2 a48 w48 63 (hd 2 63 rfl rfl))
      have u65 := mv s16 (fa ?b47_4 a48 w48 65 (hd 4 65 rfl rfl))
      revert s8; revert s16; revert s11; revert s5; revert s4; revert s15; refine kp6 hs rfl ?_; intro s15 s4 s5 s11 s16 s8
      have s63 := u63; clear u63
      have s65 := u65; clear u65
      have s61 := fa ?b47_0 a48 w48 61 (hd 0 61 rfl rfl)
      have s62 := fa ?b47_1 a48 w48 62 (hd 1 62 rfl rfl)
      have s64 := fa ?b47_3 a48 w48 64 (hd 3 64 rfl rfl)
      have s66 := fa ?b47_5 a48 w48 66 (hd 5 66 rfl rfl)
      have s67 := fa ?b47_6 a48 w48 67 (hd 6 67 rfl rfl)
      have s68 := fa ?b47_7 a48 w48 68 (hd 7 68 rfl rfl)
      have s69 := fa ?b47_8 a48 w48 69 (hd 8 69 rfl rfl)
      obtain ⟨g48_62, q48_62⟩ := OwnB.at s62; clear s62; have n48_62 := OwnBA.lt q48_62
      replace q48_62 := OwnBA.mono q48_62 e_w.size
      have s62 := q48_62; clear q48_62
      obtain ⟨g48_69, q48_69⟩ := OwnB.at s69; clear s69; have n48_69 := OwnBA.lt q48_69
      replace q48_69 := OwnBA.mono q48_69 e_w.size
      have s69 := q48_69; clear q48_69
      replace e_w := e_w.trans x
      replace e_w45 := e_w45.trans x
      clear hd hs x
      show wpList _ _ _ [_, _] _ _
      have l49 := OwnBA.lt s62
      have l49_gL := OwnRA.lt (later e_w45 gL)
      refine wl_append_bsA hr (by decide) Try.underlying22 info5 rfl s62 (OwnBA.bs s69) e_w.size (by simp only [List.length_append, hpl9, hpt]; omega) ?_; clear hr; intro g49 a49 w49 hg49 hc hr hd hs
      have hb := hc.below e_w.size l49.1
      revert s15; refine kp1 hs rfl ?_; intro s15
      clear s4 s5 s11 s16 s8 s63 s65 s61 s64 s66 s67 s68 s62 s69
      have s70 := hd
      replace gL := OwnRA.other (later e_w45 gL) hc (by omega)
      replace e_w := e_w.below (Nat.le_refl _) hb
      clear e_w45
      clear hd hs hb hc
      refine wl_op hr (ok_assign s70) inferInstance ?_; clear hr; intro a50 w50 x hr hd hs
      revert s15; refine kp1 hs rfl ?_; intro s15
      clear s70
      have s17 := hd 17 rfl (by decide)
      replace e_w := e_w.trans x
      have e_w49 := x
      clear hd hs x
      refine wpList_nil ?_
      refine exit_then ?_
      refine wp_seq ?_
      refine wp_reg_pre (l := [_, _]) (rest := [_, _, _]) 91 [[(17, none)], [(15, none)]] [?b51_0, ?b51_1] hr ?t51 ?o51 ?_
      case o51 =>
       refine oc0 (fun A W hx hf => ?_) ?_
       exact ok_movE (a0 := a50) (r0 hf)
       refine oc0 (fun A W hx hf => ?_) ?_
       exact ok_movE (a0 := a50) (r0 hf)
       exact OpsOk.nil
      case t51 => exact inferInstance
      clear hr; intro a52 w52 x hr hd hs
      have u71 := mv s17 (fa ?b51_0 a52 w52 71 (hd 0 71 rfl))
      have u72 := mv s15 (fa ?b51_1 a52 w52 72 (hd 1 72 rfl))
      clear s15 s17
      have s71 := u71; clear u71
      have s72 := u72; clear u72
      replace e_w := e_w.trans x
      replace e_w49 := e_w49.trans x
      have e_w50 := x
      clear hd hs x
      have l53 := OwnBA.lt (later e_w50 s71)
      have l53_gL := OwnRA.lt (later e_w49 gL)
      refine wl_append_bsA hr (by decide) Try.underlying22 info5 rfl (later e_w50 s71) (later e_w s72) e_w.size (by simp only [List.length_append, hpl9, hpt]; omega) ?_; clear hr; intro g53 a53 w53 hg53 hc hr hd hs
      have hb := hc.below e_w.size l53.1
      clear s71 s72
      have s73 := hd
      replace gL := OwnRA.other (later e_w49 gL) hc (by omega)
      replace e_w := e_w.below (Nat.le_refl _) hb
      clear e_w49
      clear e_w50
      clear hd hs hb hc
      refine wl_op hr (ok_assign s73) inferInstance ?_; clear hr; intro a54 w54 x hr hd hs
      clear s73
      have s6 := hd 6 rfl (by decide)
      replace e_w := e_w.trans x
      have e_w53 := x
      clear hd hs x
      refine wl_op hr (ok_assignc) inferInstance ?_; clear hr; intro a55 w55 x hr hd hs
      revert s6; refine kp1 hs rfl ?_; intro s6
      have s7 := hd 7 rfl (by decide)
      replace e_w := e_w.trans x
      replace e_w53 := e_w53.trans x
      have e_w54 := x
      clear hd hs x
      refine wpList_nil ?_
      refine exit_then ?_
      refine wp_ret ?_
      refine then_ret ?_
      refine ret_tmp2 Try.results11 hr e_w ?_
      first | (rw [hw9]; exact ⟨_, _, rfl, OwnB.mono (later e_w54 s6).own hB, s7⟩)
    ·
     skip
     refine wp_skip ?_
     refine exit_then ?_
     refine wp_seq ?_
     refine wp_seq ?_
     refine wp_reg 91 [[(11, none)], [(74, some 0)], [(75, some 1)]] [?b56_0, ?b56_1, ?b56_2] mixed hr ?t56 ?o56 ?_
     case o56 =>
      refine oc0 (fun A W hx hf => ?_) ?_
      exact ok_movE (a0 := a36) (r0 hf)
      refine oc0 (fun A W hx hf => ?_) ?_
      exact ok_addI (ec A (.int .i64 20)) (p2 s11 e_w14 hx (q0 ?b56_0 A W 74 hf)) (by omega)
      refine oc0 (fun A W hx hf => ?_) ?_
      exact ok_gtr (q0 ?b56_1 A W 75 hf) (ec A (.int .i64 65535))
      exact OpsOk.nil
     case t56 => exact inferInstance
     clear hr; intro a57 w57 x hr hd hs
     revert s16; revert s15; revert s11; revert s8; revert s5; revert s4; refine kp6 hs rfl ?_; intro s4 s5 s8 s11 s15 s16
     clear s57
     have s76 := fa ?b56_2 a57 w57 76 (hd 2 76 rfl)
     replace e_w := e_w.trans x
     replace e_w6 := e_w6.trans x
     replace e_w14 := e_w14.trans x
     replace e_w31 := e_w31.trans x
     clear hd hs x
     refine exit_then ?_
     refine wp_cond_split (show _ = _ from s76) (fun hb => ?_) (fun hb => ?_)
     ·
      have hb : 20 + (cutN l).total > 65535 := by simpa using hb
      have hw9 := wrapR_44 hok hf h6 hb
      refine wp_seq ?_
      refine wp_reg 91 [[], []] [?b59_0, ?b59_1] mixed hr ?t59 ?o59 ?_
      case o59 =>
       refine oc0 (fun A W hx hf => ?_) ?_
       exact ok_assignv (OwnBA 0 w.heap.size 5 []) (fun _ => ownBA_nil)
       refine oc0 (fun A W hx hf => ?_) ?_
       exact ok_assignc
       exact OpsOk.nil
      case t59 => exact inferInstance
      clear hr; intro a60 w60 x hr hd hs
      clear s4 s5 s8 s11 s15 s16 s76
      have s6 := fa ?b59_0 a60 w60 6 (hd 0 6 rfl)
      have s7 := fa ?b59_1 a60 w60 7 (hd 1 7 rfl)
      replace e_w := e_w.trans x
      replace e_w6 := e_w6.trans x
      clear e_w14
      clear e_w31
      clear hd hs x
      refine exit_then ?_
      refine wp_ret ?_
      refine then_ret ?_
      refine ret_tmp2 Try.results11 hr e_w ?_
      first | (rw [hw9]; exact ⟨_, _, rfl, OwnB.mono s6.own hB, s7⟩)
     ·
      have hb : ¬ 20 + (cutN l).total > 65535 := by simpa using hb
      have hw9 := wrapR_4 hok hf h6 hb
      have hrt := wrap4_right (l := l) (n := (cutN l).total) h6 hf (by omega)
      have hpl9 := fourPut_len (H := four20 (wrapT l Sa Da) (cutN l).total) ⟨hA, hD⟩
      have hpr := cut_right hok false
      have hpt := linkPut_len (L := typedL (cutL l) false) (cutL_ok l)
      have hpt2 := (linkRight_bd hpr).1
      have hpc : (cutP l).length ≤ 65535 := by omega
      refine wp_skip ?_
      refine exit_then ?_
      refine wp_seq ?_
      refine wp_reg_pre (l := [_]) (rest := [_]) 91 [[(8, none)]] [?b61_0] hr ?t61 ?o61 ?_
      case o61 =>
       refine oc0 (fun A W hx hf => ?_) ?_
       exact ok_fieldS 3 Try.underlying41 (k := 3) rfl size3 rfl (o2 s8 e_w6 hx (r0 hf)) rfl
       exact OpsOk.nil
      case t61 => exact inferInstance
      clear hr; intro a62 w62 x hr hd hs
      revert s16; revert s15; revert s11; revert s8; revert s5; revert s4; refine kp6 hs rfl ?_; intro s4 s5 s8 s11 s15 s16
      clear s76
      have s77 := fa ?b61_0 a62 w62 77 (hd 0 77 rfl)
      replace e_w := e_w.trans x
      replace e_w6 := e_w6.trans x
      replace e_w14 := e_w14.trans x
      replace e_w31 := e_w31.trans x
      clear hd hs x
      have z63 := PxS.lt s77
      have l63 := (show (g5_8 = 0 ∨ w.heap.size < g5_8) ∧ True from ⟨by omega, trivial⟩)
      have l63_4 := PxS.lt (later e_w6 s4)
      have l63_5 := PxS.lt (later e_w6 s5)
      have l63_gL := OwnRA.lt (later e_w6 gL)
      refine wl_storeS hr size3 s77 (ec a62 (.int .i64 2048)) (by rfl) rfl ?_; clear hr; intro a63 w63 hc hu hr hs
      have hb : Below w.heap.size w62 w63 := hc.below e_w.size l63.1
      revert s16; revert s15; revert s11; revert s8; revert s5; revert s4; refine kp6 hs rfl ?_; intro s4 s5 s8 s11 s15 s16
      clear s77
      replace s4 := PxS.other (later e_w6 s4) hc (by omega)
      replace s5 := PxS.other (later e_w6 s5) hc (by omega)
      replace s8 := hu _ _ _ (later e_w6 s8)
      try simp only [List.set_cons_zero, List.set_cons_succ, lnkS] at s8
      replace gL := OwnRA.other (later e_w6 gL) hc (by omega)
      replace e_w := e_w.below (Nat.le_refl _) hb
      clear e_w6
      clear e_w14
      clear e_w31
      replace s11 := anyw (w2 := w63) s11
      replace s16 := anyw (w2 := w63) s16
      clear hu hs hc hb
      refine wpList_nil ?_
      replace s8 := PxS.cast s8 (show _ = lnkS (typedL (cutL l) false) svl from rfl)
      refine exit_then ?_
      refine wp_seq ?_
      refine wp_any_start mixed (fun w64 x => ?_)
      show wpAny _ _ _ _ 11 _ _ _
      replace e_w := e_w.trans x
      have e_w63 := x
      clear x
      refine wp_sel (l := [_, _, _, _, _, _, _, _, _, _, _]) 91 _ [false, false, false, false, false, false, false, false, false, true, true] [9, 10] [[(8, none)], [(78, some 0)], [(11, none)], [(80, some 2)], [(16, none)], [(4, none)], [(5, none)], [(81, some 3), (82, some 4), (83, some 5), (84, some 6)], [(85, some 7)], [], []] [?b65_0, ?b65_1, ?b65_2, ?b65_3, ?b65_4, ?b65_5, ?b65_6, ?b65_7, ?b65_8, VP.top, VP.top] (by kernel_rfl) rfl (by kernel_rfl) hr ?t65 ?o65 ?_
      case o65 =>
       refine lc0 (fun A W hx hf => ?_) ?_
       exact ok_loadAggS 5 Try.underlying41 rfl size41 (o2 s8 e_w63 hx (r0 hf)) rfl
       refine lc0 (fun A W hx hf => ?_) ?_
       exact ok_call1 body25 (c_r7Put (LinkV.of (show Is (LnkA (typedL (cutL l) false) svl) _ _ from (q0 ?b65_0 A W 78 hf)) (OwnRA.rw (later (e_w63.trans hx) gL))) (by exact cutL_ok l) (by exact hpr) hx.size)
       refine lc0 (fun A W hx hf => ?_) ?_
       exact ok_movE (a0 := a63) (r0 hf)
       refine lc0 (fun A W hx hf => ?_) ?_
       exact ok_addI (ec A (.int .i64 20)) (p2 s11 e_w63 hx (q0 ?b65_2 A W 80 hf)) (by omega)
       refine lc0 (fun A W hx hf => ?_) ?_
       exact ok_movE (a0 := a63) (r0 hf)
       refine lc0 (fun A W hx hf => ?_) ?_
       exact ok_loadAggS 2 Try.underlying25 rfl size25 (o2 s4 e_w63 hx (r0 hf)) rfl
       refine lc0 (fun A W hx hf => ?_) ?_
       exact ok_loadAggS 2 Try.underlying25 rfl size25 (o2 s5 e_w63 hx (r0 hf)) rfl
       refine lc0 (fun A W hx hf => ?_) ?_
       exact ok_buildS [(0, (.const (.int .i64 20))), (1, (.tmp 81)), (5, (.const (.bool true))), (6, (.const (.int .i64 64))), (7, (.tmp 82)), (8, (.tmp 83)), (9, (.tmp 84))] [(0, _), (1, _), (5, _), (6, _), (7, _), (8, _), (9, _)] lay64 rfl (PartsC.one (ec A (.int .i64 20)) rfl (PartsC.one (q0 ?b65_3 A W 81 hf) rfl (PartsC.one (ec A (.bool true)) rfl (PartsC.one (ec A (.int .i64 64)) rfl (PartsC.one (p2 s16 e_w63 hx (q1 ?b65_4 A W 82 hf)) rfl (PartsC.agg (q2 ?b65_5 A W 83 hf) (PartsC.agg (q3 ?b65_6 A W 84 hf) (PartsC.nil)))))))) (by simp [hA, hD])
       refine lc0 (fun A W hx hf => ?_) ?_
       exact ok_call1 body27 (c_r8Put (Is.conv (q0 ?b65_7 A W 85 hf) (show _ = FourV (four20 (wrapT l Sa Da) (cutN l).total) from by simp [FourV, fourS, four20, wrapT, adrCells, setAll])) (by exact ⟨hA, hD⟩) (by exact hrt) hx.size)
       refine lcs ?_
       refine lcs ?_
       exact lcn
      case t65 => exact inferInstance
      clear hr; intro a66 w66 x hr hd hs
      have z_w_w64 := e_w.size
      have z_w63_w64 := e_w63.size
      have l66_4 := PxS.lt (later e_w63 s4)
      have l66_5 := PxS.lt (later e_w63 s5)
      have l66_8 := PxS.lt (later e_w63 s8)
      have l66_gL := OwnRA.lt (later e_w63 gL)
      have u80 := mv s11 (fa ?b65_2 a66 w66 80 (hd 2 80 rfl rfl))
      have u82 := mv s16 (fa ?b65_4 a66 w66 82 (hd 4 82 rfl rfl))
      revert s8; revert s16; revert s11; revert s5; revert s4; revert s15; refine kp6 hs rfl ?_; intro s15 s4 s5 s11 s16 s8
      have s80 := u80; clear u80
      have s82 := u82; clear u82
      have s78 := fa ?b65_0 a66 w66 78 (hd 0 78 rfl rfl)
      have s79 := fa ?b65_1 a66 w66 79 (hd 1 79 rfl rfl)
      have s81 := fa ?b65_3 a66 w66 81 (hd 3 81 rfl rfl)
      have s83 := fa ?b65_5 a66 w66 83 (hd 5 83 rfl rfl)
      have s84 := fa ?b65_6 a66 w66 84 (hd 6 84 rfl rfl)
      have s85 := fa ?b65_7 a66 w66 85 (hd 7 85 rfl rfl)
      have s86 := fa ?b65_8 a66 w66 86 (hd 8 86 rfl rfl)
      obtain ⟨g66_79, q66_79⟩ := OwnB.at s79; clear s79; have n66_79 := OwnBA.lt q66_79
      replace q66_79 := OwnBA.mono q66_79 e_w.size
      have s79 := q66_79; clear q66_79
      obtain ⟨g66_86, q66_86⟩ := OwnB.at s86; clear s86; have n66_86 := OwnBA.lt q66_86
      replace q66_86 := OwnBA.mono q66_86 e_w.size
      have s86 := q66_86; clear q66_86
      replace e_w := e_w.trans x
      replace e_w63 := e_w63.trans x
      clear hd hs x
      show wpList _ _ _ [_, _] _ _
      have l67 := OwnBA.lt s79
      have l67_gL := OwnRA.lt (later e_w63 gL)
      refine wl_append_bsA hr (by decide) Try.underlying22 info5 rfl s79 (OwnBA.bs s86) e_w.size (by simp only [List.length_append, hpl9, hpt]; omega) ?_; clear hr; intro g67 a67 w67 hg67 hc hr hd hs
      have hb := hc.below e_w.size l67.1
      revert s15; refine kp1 hs rfl ?_; intro s15
      clear s4 s5 s11 s16 s8 s80 s82 s78 s81 s83 s84 s85 s79 s86
      have s87 := hd
      replace gL := OwnRA.other (later e_w63 gL) hc (by omega)
      replace e_w := e_w.below (Nat.le_refl _) hb
      clear e_w63
      clear hd hs hb hc
      refine wl_op hr (ok_assign s87) inferInstance ?_; clear hr; intro a68 w68 x hr hd hs
      revert s15; refine kp1 hs rfl ?_; intro s15
      clear s87
      have s18 := hd 18 rfl (by decide)
      replace e_w := e_w.trans x
      have e_w67 := x
      clear hd hs x
      refine wpList_nil ?_
      refine exit_then ?_
      refine wp_seq ?_
      refine wp_reg_pre (l := [_, _]) (rest := [_, _, _]) 91 [[(18, none)], [(15, none)]] [?b69_0, ?b69_1] hr ?t69 ?o69 ?_
      case o69 =>
       refine oc0 (fun A W hx hf => ?_) ?_
       exact ok_movE (a0 := a68) (r0 hf)
       refine oc0 (fun A W hx hf => ?_) ?_
       exact ok_movE (a0 := a68) (r0 hf)
       exact OpsOk.nil
      case t69 => exact inferInstance
      clear hr; intro a70 w70 x hr hd hs
      have u88 := mv s18 (fa ?b69_0 a70 w70 88 (hd 0 88 rfl))
      have u89 := mv s15 (fa ?b69_1 a70 w70 89 (hd 1 89 rfl))
      clear s15 s18
      have s88 := u88; clear u88
      have s89 := u89; clear u89
      replace e_w := e_w.trans x
      replace e_w67 := e_w67.trans x
      have e_w68 := x
      clear hd hs x
      have l71 := OwnBA.lt (later e_w68 s88)
      have l71_gL := OwnRA.lt (later e_w67 gL)
      refine wl_append_bsA hr (by decide) Try.underlying22 info5 rfl (later e_w68 s88) (later e_w s89) e_w.size (by simp only [List.length_append, hpl9, hpt]; omega) ?_; clear hr; intro g71 a71 w71 hg71 hc hr hd hs
      have hb := hc.below e_w.size l71.1
      clear s88 s89
      have s90 := hd
      replace gL := OwnRA.other (later e_w67 gL) hc (by omega)
      replace e_w := e_w.below (Nat.le_refl _) hb
      clear e_w67
      clear e_w68
      clear hd hs hb hc
      refine wl_op hr (ok_assign s90) inferInstance ?_; clear hr; intro a72 w72 x hr hd hs
      clear s90
      have s6 := hd 6 rfl (by decide)
      replace e_w := e_w.trans x
      have e_w71 := x
      clear hd hs x
      refine wl_op hr (ok_assignc) inferInstance ?_; clear hr; intro a73 w73 x hr hd hs
      revert s6; refine kp1 hs rfl ?_; intro s6
      have s7 := hd 7 rfl (by decide)
      replace e_w := e_w.trans x
      replace e_w71 := e_w71.trans x
      have e_w72 := x
      clear hd hs x
      refine wpList_nil ?_
      refine exit_then ?_
      refine wp_ret ?_
      refine ret_tmp2 Try.results11 hr e_w ?_
      first | (rw [hw9]; exact ⟨_, _, rfl, OwnB.mono (later e_w72 s6).own hB, s7⟩)

def D_c_r13Unwrap_0 : List Tmp := [63]
set_option maxHeartbeats 1000000 in
theorem c_r13Unwrap {x0 : Value} {w : World} {l : List UInt8} {B : Nat} (h0 : (Bs l) x0 w) (hn9 : l.length ≤ 900000) (hB : B ≤ w.heap.size) :
    Calls Try.prog 14 #[x0] w (Ret (Tup2 (OwnB B 5 (unwR l).1) (Is (.bool (unwR l).2))) w) := by
 have hlen := Bs.len_le h0
 refine enter Try.func14 rfl Try.ntmps14 (k := 1) rfl (by decide) (fun a0 hr hargs => ?_)
 have s0 := sarg h0 (hargs 0 (by decide))
 clear hargs
 refine wp_seq ?_
 refine wp_reg 82 [[], []] [?b1_0, ?b1_1] mixed hr ?t1 ?o1 ?_
 case o1 =>
  refine oc0 (fun A W hx hf => ?_) ?_
  exact ok_assignv (OwnBA 0 w.heap.size 5 []) (fun _ => ownBA_nil)
  refine oc0 (fun A W hx hf => ?_) ?_
  exact ok_assignc
  exact OpsOk.nil
 case t1 => exact inferInstance
 clear hr; intro a2 w2 x hr hd hs
 revert s0; refine kp1 hs rfl ?_; intro s0
 have e_w := x
 clear hd hs x
 refine exit_then ?_
 refine wp_seq ?_
 refine wp_reg_pre (l := [_, _, _, _, _]) (rest := [_, _, _]) 82 [[(0, none)], [(18, some 0)], [(19, some 1)], [(17, some 2)], [(17, some 2)]] [?b3_0, ?b3_1, ?b3_1, ?b3_3, ?b3_4] hr ?t3 ?o3 ?_
 case o3 =>
  refine oc0 (fun A W hx hf => ?_) ?_
  exact ok_movE (a0 := a2) (r0 hf)
  refine oc0 (fun A W hx hf => ?_) ?_
  exact ok_call1 body15 (c_r7Read (p2 s0 e_w hx (q0 ?b3_0 A W 18 hf)) (by omega) hx.size)
  refine oc0 (fun A W hx hf => ?_) ?_
  exact ok_move (q0 ?b3_1 A W 19 hf)
  refine oc0 (fun A W hx hf => ?_) ?_
  exact ok_ext0 (q0 ?b3_1 A W 17 hf)
  refine oc0 (fun A W hx hf => ?_) ?_
  exact ok_ext1 (q0 ?b3_1 A W 17 hf)
  exact OpsOk.nil
 case t3 => exact inferInstance
 clear hr; intro a4 w4 x hr hd hs
 revert s0; refine kp1 hs rfl ?_; intro s0
 have s20 := fa ?b3_3 a4 w4 20 (hd 3 20 rfl)
 have s21 := fa ?b3_4 a4 w4 21 (hd 4 21 rfl)
 obtain ⟨svl, s20, gL⟩ := LinkO.open s20; obtain ⟨g4_20, gL⟩ := OwnR.at gL; have n4_20 := OwnRA.lt gL
 replace gL := OwnRA.mono gL e_w.size
 replace e_w := e_w.trans x
 clear hd hs x
 have l5_gL := OwnRA.lt gL
 refine wl_op hr (ok_allocS (lnkS link0 (.slice none 0 0)) [6, 6, 1, 1, 1] zerov41 (by rfl) (by rfl) (Nat.le_refl _)) inferInstance ?_; clear hr; intro a5 w5 x hr hd hs
 revert s20; revert s21; revert s0; refine kp3 hs rfl ?_; intro s0 s21 s20
 have s4 := hd 4 rfl (by decide)
 obtain ⟨g5_4, q5_4⟩ := PxN.at s4; clear s4; have n5_4 := PxS.lt q5_4
 replace q5_4 := PxS.mono q5_4 e_w.size
 have s4 := q5_4; clear q5_4
 replace e_w := e_w.trans x
 have e_w4 := x
 clear hd hs x
 have z6 := PxS.lt s4
 have l6 := (show (g5_4 = 0 ∨ w.heap.size < g5_4) ∧ True from ⟨by omega, trivial⟩)
 have l6_gL := OwnRA.lt (later e_w4 gL)
 refine wl_storeSm (lnkS (cutL l) svl) hr size41 s4 (later e_w4 s20) (by exact lnkS_lens (cutL_ok _)) (by exact lnk_one (rw_one (OwnRA.rw (later e_w4 gL)))) rfl ?_; clear hr; intro a6 w6 hc hu hr hs
 have hb : Below w.heap.size w5 w6 := hc.below e_w.size l6.1
 revert s4; revert s21; revert s0; refine kp3 hs rfl ?_; intro s0 s21 s4
 clear s20
 replace s4 := hu _ _ _ s4
 try simp only [List.set_cons_zero, List.set_cons_succ, lnkS] at s4
 replace gL := OwnRA.other (later e_w4 gL) hc (by omega)
 replace e_w := e_w.below (Nat.le_refl _) hb
 clear e_w4
 replace s21 := anyw (w2 := w6) s21
 clear hu hs hc hb
 refine wl_op hr (ok_assign s21) inferInstance ?_; clear hr; intro a7 w7 x hr hd hs
 revert s4; revert s0; refine kp2 hs rfl ?_; intro s0 s4
 clear s21
 have s5 := hd 5 rfl (by decide)
 replace e_w := e_w.trans x
 have e_w6 := x
 clear hd hs x
 refine wpList_nil ?_
 refine exit_then ?_
 refine wp_seq ?_
 refine wp_seq ?_
 refine wp_reg 82 [[(5, none)], [(22, some 0)]] [?b8_0, ?b8_1] mixed hr ?t8 ?o8 ?_
 case o8 =>
  refine oc0 (fun A W hx hf => ?_) ?_
  exact ok_movE (a0 := a7) (r0 hf)
  refine oc0 (fun A W hx hf => ?_) ?_
  exact ok_neq (p1 s5 hx (q0 ?b8_0 A W 22 hf)) (ec A (.int .i64 0))
  exact OpsOk.nil
 case t8 => exact inferInstance
 clear hr; intro a9 w9 x hr hd hs
 revert s4; revert s0; refine kp2 hs rfl ?_; intro s0 s4
 clear s5
 have s23 := fa ?b8_1 a9 w9 23 (hd 1 23 rfl)
 replace e_w := e_w.trans x
 replace e_w6 := e_w6.trans x
 clear hd hs x
 refine exit_then ?_
 refine wp_cond_split (show _ = _ from s23) (fun he => ?_) (fun he => ?_)
 ·
  have he : (linkRead l).2 ≠ 0 := by simpa using he
  have hcn : cutN l = net0 := by unfold cutN; rw [if_neg he]
  have hw9 := unwR_no (l := l) (by rw [hcn]; rfl)
  refine wp_seq ?_
  refine wp_reg 82 [[], []] [?b11_0, ?b11_1] mixed hr ?t11 ?o11 ?_
  case o11 =>
   refine oc0 (fun A W hx hf => ?_) ?_
   exact ok_assignv (OwnBA 0 w.heap.size 5 []) (fun _ => ownBA_nil)
   refine oc0 (fun A W hx hf => ?_) ?_
   exact ok_assignc
   exact OpsOk.nil
  case t11 => exact inferInstance
  clear hr; intro a12 w12 x hr hd hs
  clear s0 s4 s23
  have s2 := fa ?b11_0 a12 w12 2 (hd 0 2 rfl)
  have s3 := fa ?b11_1 a12 w12 3 (hd 1 3 rfl)
  replace e_w := e_w.trans x
  replace e_w6 := e_w6.trans x
  clear hd hs x
  refine exit_then ?_
  refine wp_ret ?_
  refine then_ret ?_
  refine ret_tmp2 Try.results14 hr e_w ?_
  first | (rw [hw9]; exact ⟨_, _, rfl, OwnB.mono s2.own hB, s3⟩)
 ·
  have he : (linkRead l).2 = 0 := by simpa using he
  obtain ⟨y1, y2, y3, y4⟩ := cut_bd l he
  have y5 : (cutL l).at' = (cutA l : Int) := y1.symm
  have hcn : cutN l = netRead (cutL l).type (l.drop (cutA l)) := by unfold cutN; rw [if_pos he]
  have hcp : cutP l = subl l (cutA l) (cutA l + (cutN l).total.toNat) := by unfold cutP; rw [if_pos he]
  have y6 := cut_tot he
  refine wp_skip ?_
  refine exit_then ?_
  refine wp_seq ?_
  refine wp_reg 82 [[(4, none)], [(25, some 0)], [(0, none)], [(4, none)], [(28, some 3)], [(27, some 2), (29, some 4)], [(26, some 1), (30, some 5)], [(31, some 6)], [(24, some 7)], [(24, some 7)], [(24, some 7)], [(24, some 7)], [(24, some 7)], [(32, some 8)], [(33, some 9)], [(34, some 10)], [(35, some 11)], [(36, some 12)]] [?b13_0, ?b13_1, ?b13_2, ?b13_3, ?b13_4, ?b13_5, ?b13_6, ?b13_6, ?b13_8, ?b13_9, ?b13_10, ?b13_11, ?b13_12, ?b13_8, ?b13_9, ?b13_10, ?b13_11, ?b13_12] mixed hr ?t13 ?o13 ?_
  case o13 =>
   refine oc0 (fun A W hx hf => ?_) ?_
   exact ok_fieldS 3 Try.underlying41 (k := 3) rfl size3 rfl (o2 s4 e_w6 hx (r0 hf)) rfl
   refine oc0 (fun A W hx hf => ?_) ?_
   exact ok_loadS Try.underlying3 rfl (q0 ?b13_0 A W 25 hf) rfl
   refine oc0 (fun A W hx hf => ?_) ?_
   exact ok_movE (a0 := a9) (r0 hf)
   refine oc0 (fun A W hx hf => ?_) ?_
   exact ok_fieldS 4 Try.underlying41 (k := 4) rfl size3 rfl (o2 s4 e_w6 hx (r0 hf)) rfl
   refine oc0 (fun A W hx hf => ?_) ?_
   exact ok_loadS Try.underlying3 rfl (q0 ?b13_3 A W 28 hf) rfl
   refine oc0 (fun A W hx hf => ?_) ?_
   exact okW_slice_lo (cutA l) Try.underlying22 size5 (sarg s0 (show _ = _ from (q0 ?b13_2 A W 27 hf))) (Is.int (q1 ?b13_4 A W 29 hf) (by exact y5)) (by omega)
   refine oc0 (fun A W hx hf => ?_) ?_
   exact ok_call2 body16 (c_r13Net (q0 ?b13_1 A W 26 hf) (AtW.now (q1 ?b13_5 A W 30 hf) (e_w.trans hx)) (by simp; omega))
   refine oc0 (fun A W hx hf => ?_) ?_
   exact ok_move (q0 ?b13_6 A W 31 hf)
   refine oc0 (fun A W hx hf => ?_) ?_
   exact ok_ext5_0 (q0 ?b13_6 A W 24 hf)
   refine oc0 (fun A W hx hf => ?_) ?_
   exact ok_ext5_1 (q0 ?b13_6 A W 24 hf)
   refine oc0 (fun A W hx hf => ?_) ?_
   exact ok_ext5_2 (q0 ?b13_6 A W 24 hf)
   refine oc0 (fun A W hx hf => ?_) ?_
   exact ok_ext5_3 (q0 ?b13_6 A W 24 hf)
   refine oc0 (fun A W hx hf => ?_) ?_
   exact ok_ext5_4 (q0 ?b13_6 A W 24 hf)
   refine oc0 (fun A W hx hf => ?_) ?_
   exact ok_assign (q0 ?b13_8 A W 32 hf)
   refine oc0 (fun A W hx hf => ?_) ?_
   exact ok_assign (q0 ?b13_9 A W 33 hf)
   refine oc0 (fun A W hx hf => ?_) ?_
   exact ok_assign (q0 ?b13_10 A W 34 hf)
   refine oc0 (fun A W hx hf => ?_) ?_
   exact ok_assign (q0 ?b13_11 A W 35 hf)
   refine oc0 (fun A W hx hf => ?_) ?_
   exact ok_assign (q0 ?b13_12 A W 36 hf)
   exact OpsOk.nil
  case t13 => exact inferInstance
  clear hr; intro a14 w14 x hr hd hs
  revert s4; revert s0; refine kp2 hs rfl ?_; intro s0 s4
  clear s23
  have s6 := fa ?b13_8 a14 w14 6 (hd 13 6 rfl)
  have s7 := fa ?b13_9 a14 w14 7 (hd 14 7 rfl)
  have s8 := fa ?b13_10 a14 w14 8 (hd 15 8 rfl)
  have s9 := fa ?b13_11 a14 w14 9 (hd 16 9 rfl)
  have s10 := fa ?b13_12 a14 w14 10 (hd 17 10 rfl)
  replace e_w := e_w.trans x
  replace e_w6 := e_w6.trans x
  clear hd hs x
  replace s6 := Is.conv s6 (show _ = Value.int .i64 (cutN l).head from by rw [hcn])
  replace s7 := Is.conv s7 (show _ = Value.int .i64 (cutN l).total from by rw [hcn])
  replace s8 := Is.conv s8 (show _ = Value.int .i64 (cutN l).proto from by rw [hcn])
  replace s9 := Is.conv s9 (show _ = Value.bool (cutN l).frag from by rw [hcn])
  replace s10 := Is.conv s10 (show _ = Value.bool (cutN l).ok from by rw [hcn])
  refine exit_then ?_
  refine wp_seq ?_
  refine wp_seq ?_
  refine wp_reg 82 [[(10, none)], [(37, some 0)], [(38, some 1)], [(9, none), (39, some 2)], [(39, some 2), (40, some 3)], [(41, some 4)], [(8, none), (42, some 5)], [(43, some 6), (42, some 5)], [(44, some 7), (42, some 5)], [(8, none), (45, some 8)], [(46, some 9), (45, some 8)], [(45, some 8), (47, some 10), (42, some 5)], [(42, some 5), (48, some 11)]] [?b15_0, ?b15_1, ?b15_1, ?b15_3, ?b15_4, ?b15_4, ?b15_6, ?b15_7, ?b15_7, ?b15_9, ?b15_10, ?b15_11, ?b15_12] mixed hr ?t15 ?o15 ?_
  case o15 =>
   refine oc0 (fun A W hx hf => ?_) ?_
   exact ok_movE (a0 := a14) (r0 hf)
   refine oc0 (fun A W hx hf => ?_) ?_
   exact ok_not (p1 s10 hx (q0 ?b15_0 A W 37 hf))
   refine oc0 (fun A W hx hf => ?_) ?_
   exact ok_move (q0 ?b15_1 A W 38 hf)
   refine ocg 39 ?_ (fun A W hx hf => ?_) ?_
   rfl
   exact gd_f (q1 ?b15_1 A W 39 hf) (fun hc => ok_movE (a0 := a14) (r0 hf))
   refine oc0 (fun A W hx hf => ?_) ?_
   exact ok_or (q0 ?b15_1 A W 39 hf) (G.al (later hx s9) (q1 ?b15_3 A W 40 hf))
   refine oc0 (fun A W hx hf => ?_) ?_
   exact ok_move (q0 ?b15_4 A W 41 hf)
   refine ocg 42 ?_ (fun A W hx hf => ?_) ?_
   rfl
   exact gd_f (q1 ?b15_4 A W 42 hf) (fun hc => ok_movE (a0 := a14) (r0 hf))
   refine ocg 42 ?_ (fun A W hx hf => ?_) ?_
   rfl
   exact gd_f (q1 ?b15_4 A W 42 hf) (fun hc => ok_neq (p1 s8 hx (G.get (q0 ?b15_6 A W 43 hf) hc)) (ec A (.int .i64 4)))
   refine ocg 42 ?_ (fun A W hx hf => ?_) ?_
   rfl
   exact gd_f (q1 ?b15_4 A W 42 hf) (fun hc => ok_move (G.get (q0 ?b15_7 A W 44 hf) hc))
   refine ocg 45 ?_ (fun A W hx hf => ?_) ?_
   rfl
   exact gd_gt (q1 ?b15_7 A W 45 hf) (fun hc => ok_movE (a0 := a14) (r0 hf))
   refine ocg 45 ?_ (fun A W hx hf => ?_) ?_
   rfl
   exact gd_gt (q1 ?b15_7 A W 45 hf) (fun hc => ok_neq (p1 s8 hx (G.get (q0 ?b15_9 A W 46 hf) hc)) (ec A (.int .i64 41)))
   refine ocg 42 ?_ (fun A W hx hf => ?_) ?_
   rfl
   exact gd_f (q2 ?b15_4 A W 42 hf) (fun hc => ok_and (G.get (q0 ?b15_7 A W 45 hf) hc) (G.strip hc (q1 ?b15_10 A W 47 hf)))
   refine oc0 (fun A W hx hf => ?_) ?_
   exact ok_or (q0 ?b15_4 A W 42 hf) (q1 ?b15_11 A W 48 hf)
   exact OpsOk.nil
  case t15 => exact inferInstance
  clear hr; intro a16 w16 x hr hd hs
  revert s8; revert s7; revert s6; revert s4; revert s0; refine kp5 hs rfl ?_; intro s0 s4 s6 s7 s8
  clear s9 s10
  have s49 := fa ?b15_12 a16 w16 49 (hd 12 49 rfl)
  replace e_w := e_w.trans x
  replace e_w6 := e_w6.trans x
  have e_w14 := x
  clear hd hs x
  refine exit_then ?_
  refine wp_cond_split (show _ = _ from s49) (fun hok => ?_) (fun hok => ?_)
  ·
   have hw9 := unw_c1 hok
   refine wp_seq ?_
   refine wp_reg 82 [[], []] [?b18_0, ?b18_1] mixed hr ?t18 ?o18 ?_
   case o18 =>
    refine oc0 (fun A W hx hf => ?_) ?_
    exact ok_assignv (OwnBA 0 w.heap.size 5 []) (fun _ => ownBA_nil)
    refine oc0 (fun A W hx hf => ?_) ?_
    exact ok_assignc
    exact OpsOk.nil
   case t18 => exact inferInstance
   clear hr; intro a19 w19 x hr hd hs
   clear s0 s4 s6 s7 s8 s49
   have s2 := fa ?b18_0 a19 w19 2 (hd 0 2 rfl)
   have s3 := fa ?b18_1 a19 w19 3 (hd 1 3 rfl)
   replace e_w := e_w.trans x
   replace e_w6 := e_w6.trans x
   clear e_w14
   clear hd hs x
   refine exit_then ?_
   refine wp_ret ?_
   refine then_ret ?_
   refine ret_tmp2 Try.results14 hr e_w ?_
   first | (rw [hw9]; exact ⟨_, _, rfl, OwnB.mono s2.own hB, s3⟩)
  ·
   obtain ⟨hof, hpp⟩ := unw_c2 hok
   have hok : (cutN l).ok = true := by cases h9 : (cutN l).ok with | true => rfl | false => rw [h9] at hof; simp at hof
   obtain ⟨hP, hH20, hHT⟩ := cutP_len hok
   have hti := typed_inner (L := cutL l) hpp
   refine wp_skip ?_
   refine exit_then ?_
   refine wp_seq ?_
   refine wp_reg 82 [[(0, none)], [(4, none)], [(51, some 1)], [(6, none)], [(52, some 2), (53, some 3)], [(4, none)], [(55, some 5)], [(7, none)], [(56, some 6), (57, some 7)], [(50, some 0), (54, some 4), (58, some 8)], [(59, some 9)]] [?b20_0, ?b20_1, ?b20_2, ?b20_3, ?b20_4, ?b20_5, ?b20_6, ?b20_7, ?b20_8, ?b20_9, ?b20_9] mixed hr ?t20 ?o20 ?_
   case o20 =>
    refine oc0 (fun A W hx hf => ?_) ?_
    exact ok_movE (a0 := a16) (r0 hf)
    refine oc0 (fun A W hx hf => ?_) ?_
    exact ok_fieldS 4 Try.underlying41 (k := 4) rfl size3 rfl (o2 s4 e_w6 hx (r0 hf)) rfl
    refine oc0 (fun A W hx hf => ?_) ?_
    exact ok_loadS Try.underlying3 rfl (q0 ?b20_1 A W 51 hf) rfl
    refine oc0 (fun A W hx hf => ?_) ?_
    exact ok_movE (a0 := a16) (r0 hf)
    refine oc0 (fun A W hx hf => ?_) ?_
    exact ok_addI (q0 ?b20_2 A W 52 hf) (p2 s6 e_w14 hx (q1 ?b20_3 A W 53 hf)) (by show (-9223372036854775808 : Int) ≤ (cutL l).at' + (cutN l).head ∧ (cutL l).at' + (cutN l).head ≤ 9223372036854775807; omega)
    refine oc0 (fun A W hx hf => ?_) ?_
    exact ok_fieldS 4 Try.underlying41 (k := 4) rfl size3 rfl (o2 s4 e_w6 hx (r0 hf)) rfl
    refine oc0 (fun A W hx hf => ?_) ?_
    exact ok_loadS Try.underlying3 rfl (q0 ?b20_5 A W 55 hf) rfl
    refine oc0 (fun A W hx hf => ?_) ?_
    exact ok_movE (a0 := a16) (r0 hf)
    refine oc0 (fun A W hx hf => ?_) ?_
    exact ok_addI (q0 ?b20_6 A W 56 hf) (p2 s7 e_w14 hx (q1 ?b20_7 A W 57 hf)) (by show (-9223372036854775808 : Int) ≤ (cutL l).at' + (cutN l).total ∧ (cutL l).at' + (cutN l).total ≤ 9223372036854775807; omega)
    refine oc0 (fun A W hx hf => ?_) ?_
    exact okW_slice_lh (cutA l + (cutN l).head.toNat) (cutA l + (cutN l).total.toNat) Try.underlying22 size5 (sarg s0 (show _ = _ from (q0 ?b20_0 A W 50 hf))) (Is.int (q1 ?b20_4 A W 54 hf) (by show (cutL l).at' + (cutN l).head = _; omega)) (Is.int (q2 ?b20_8 A W 58 hf) (by show (cutL l).at' + (cutN l).total = _; omega)) (by omega) (by omega)
    refine oc0 (fun A W hx hf => ?_) ?_
    exact ok_assign (q0 ?b20_9 A W 59 hf)
    exact OpsOk.nil
   case t20 => exact inferInstance
   clear hr; intro a21 w21 x hr hd hs
   revert s8; revert s4; refine kp2 hs rfl ?_; intro s4 s8
   clear s0 s6 s7 s49
   have s11 := AtW.base (fa ?b20_9 a21 w21 11 (hd 10 11 rfl))
   replace e_w := e_w.trans x
   replace e_w6 := e_w6.trans x
   replace e_w14 := e_w14.trans x
   clear hd hs x
   replace s11 := Bs.cast s11 (show _ = (cutP l).drop (cutN l).head.toNat from by rw [hcp]; unfold subl; rw [List.drop_drop])
   refine exit_then ?_
   refine wp_seq ?_
   refine wp_reg_pre (l := [_]) (rest := [_]) 82 [[(4, none)]] [?b22_0] hr ?t22 ?o22 ?_
   case o22 =>
    refine oc0 (fun A W hx hf => ?_) ?_
    exact ok_fieldS 3 Try.underlying41 (k := 3) rfl size3 rfl (o2 s4 e_w6 hx (r0 hf)) rfl
    exact OpsOk.nil
   case t22 => exact inferInstance
   clear hr; intro a23 w23 x hr hd hs
   revert s11; revert s8; revert s4; refine kp3 hs rfl ?_; intro s4 s8 s11
   have s60 := fa ?b22_0 a23 w23 60 (hd 0 60 rfl)
   replace e_w := e_w.trans x
   replace e_w6 := e_w6.trans x
   replace e_w14 := e_w14.trans x
   clear hd hs x
   have z24 := PxS.lt s60
   have l24 := (show (g5_4 = 0 ∨ w.heap.size < g5_4) ∧ True from ⟨by omega, trivial⟩)
   have l24_gL := OwnRA.lt (later e_w6 gL)
   refine wl_storeS hr size3 s60 (ec a23 (.int .i64 2048)) (by rfl) rfl ?_; clear hr; intro a24 w24 hc hu hr hs
   have hb : Below w.heap.size w23 w24 := hc.below e_w.size l24.1
   revert s11; revert s8; revert s4; refine kp3 hs rfl ?_; intro s4 s8 s11
   clear s60
   replace s4 := hu _ _ _ (later e_w6 s4)
   try simp only [List.set_cons_zero, List.set_cons_succ, lnkS] at s4
   replace gL := OwnRA.other (later e_w6 gL) hc (by omega)
   replace e_w := e_w.below (Nat.le_refl _) hb
   clear e_w6
   clear e_w14
   replace s8 := anyw (w2 := w24) s8
   clear hu hs hc hb
   refine wpList_nil ?_
   refine exit_then ?_
   refine wp_seq ?_
   refine wp_seq ?_
   refine wp_reg 82 [[(8, none)], [(61, some 0)]] [?b25_0, ?b25_1] mixed hr ?t25 ?o25 ?_
   case o25 =>
    refine oc0 (fun A W hx hf => ?_) ?_
    exact ok_movE (a0 := a24) (r0 hf)
    refine oc0 (fun A W hx hf => ?_) ?_
    exact ok_eql (p1 s8 hx (q0 ?b25_0 A W 61 hf)) (ec A (.int .i64 41))
    exact OpsOk.nil
   case t25 => exact inferInstance
   clear hr; intro a26 w26 x hr hd hs
   revert s4; revert s11; refine kp2 hs rfl ?_; intro s11 s4
   clear s8
   have s62 := fa ?b25_1 a26 w26 62 (hd 1 62 rfl)
   replace e_w := e_w.trans x
   have e_w24 := x
   clear hd hs x
   refine exit_then ?_
   refine wp_cut (fun A W => Fr 82 A ∧ Same D_c_r13Unwrap_0 a26 A ∧ Ext w W ∧ (OwnRA g4_20 w.heap.size 74 tagR (cutL l).tags) (svl) W ∧ (PxS g5_4 w.heap.size [6, 6, 1, 1, 1] (lnkS (typedL (cutL l) (decide ((cutN l).proto = 41))) svl) 0) (A.eval (.tmp 4)) W) ?cut27 ?_
   case cut27 =>
    have m27 : Same D_c_r13Unwrap_0 a26 a26 := Same.rfl
    refine wp_cond_split (show _ = _ from s62) (fun hp41 => ?_) (fun hp41 => ?_)
    ·
     have hp41 : (cutN l).proto = 41 := by simpa using hp41
     refine wp_reg_pre (l := [_]) (rest := [_]) 82 [[(4, none)]] [?b29_0] hr ?t29 ?o29 ?_
     case o29 =>
      refine oc0 (fun A W hx hf => ?_) ?_
      exact ok_fieldS 3 Try.underlying41 (k := 3) rfl size3 rfl (o2 s4 e_w24 hx (r0 hf)) rfl
      exact OpsOk.nil
     case t29 => exact inferInstance
     clear hr; intro a30 w30 x hr hd hs
     revert s4; revert s11; refine kp2 hs rfl ?_; intro s11 s4
     clear s62
     have s63 := fa ?b29_0 a30 w30 63 (hd 0 63 rfl)
     replace e_w := e_w.trans x
     replace e_w24 := e_w24.trans x
     replace m27 := m27.tr hs rfl
     clear hd hs x
     have z31 := PxS.lt s63
     have l31 := (show (g5_4 = 0 ∨ w.heap.size < g5_4) ∧ True from ⟨by omega, trivial⟩)
     have l31_gL := OwnRA.lt (later e_w24 gL)
     refine wl_storeS hr size3 s63 (ec a30 (.int .i64 34525)) (by rfl) rfl ?_; clear hr; intro a31 w31 hc hu hr hs
     have hb : Below w.heap.size w30 w31 := hc.below e_w.size l31.1
     revert s4; revert s11; refine kp2 hs rfl ?_; intro s11 s4
     clear s63
     replace s4 := hu _ _ _ (later e_w24 s4)
     try simp only [List.set_cons_zero, List.set_cons_succ, lnkS] at s4
     replace gL := OwnRA.other (later e_w24 gL) hc (by omega)
     replace e_w := e_w.below (Nat.le_refl _) hb
     clear e_w24
     replace m27 := m27.tr hs rfl
     clear hu hs hc hb
     refine wpList_nil ?_
     refine exit_then ?_
     refine ⟨hr, m27, e_w, gL, ?_⟩
     · first | exact PxS.cast s4 (by rw [hp41]; rfl) | exact PxS.cast s4 (by rw [show decide ((cutN l).proto = 41) = false from decide_eq_false hp41]; rfl)
    ·
     have hp41 : ¬ (cutN l).proto = 41 := by simpa using hp41
     refine wp_skip ?_
     refine exit_then ?_
     refine ⟨hr, m27, e_w, (later e_w24 gL), ?_⟩
     · first | exact PxS.cast (later e_w24 s4) (by rw [hp41]; rfl) | exact PxS.cast (later e_w24 s4) (by rw [show decide ((cutN l).proto = 41) = false from decide_eq_false hp41]; rfl)
   intro a27 w27 hI
   clear e_w
   clear e_w24
   clear hr; obtain ⟨hr, hs, e_w, gL, u4⟩ := hI
   revert s11; refine kp1 hs rfl ?_; intro s11
   clear s4 s62
   have s4 := u4; clear u4
   clear hs
   refine wp_seq ?_
   have hty : (typedL (cutL l) (decide ((cutN l).proto = 41))).type = innerI (cutN l).proto := by rw [← hti]
   refine wp_reg 82 [[(4, none)], [(65, some 0)], [(11, none)], [(66, some 1), (67, some 2)], [(68, some 3)], [(64, some 4)], [(64, some 4)], [(64, some 4)], [(64, some 4)], [(64, some 4)], [(69, some 5)], [(70, some 6)], [(71, some 7)], [(72, some 8)], [(73, some 9)]] [?b32_0, ?b32_1, ?b32_2, ?b32_3, ?b32_3, ?b32_5, ?b32_6, ?b32_7, ?b32_8, ?b32_9, ?b32_5, ?b32_6, ?b32_7, ?b32_8, ?b32_9] mixed hr ?t32 ?o32 ?_
   case o32 =>
    refine oc0 (fun A W hx hf => ?_) ?_
    exact ok_fieldS 3 Try.underlying41 (k := 3) rfl size3 rfl (o1 s4 hx (r0 hf)) rfl
    refine oc0 (fun A W hx hf => ?_) ?_
    exact ok_loadS Try.underlying3 rfl (q0 ?b32_0 A W 65 hf) rfl
    refine oc0 (fun A W hx hf => ?_) ?_
    exact ok_movE (a0 := a27) (r0 hf)
    refine oc0 (fun A W hx hf => ?_) ?_
    exact ok_call2 body16 (c_r13Net (Is.int (q0 ?b32_1 A W 66 hf) hty) (p2 s11 e_w hx (q1 ?b32_2 A W 67 hf)) (by simp; omega))
    refine oc0 (fun A W hx hf => ?_) ?_
    exact ok_move (q0 ?b32_3 A W 68 hf)
    refine oc0 (fun A W hx hf => ?_) ?_
    exact ok_ext5_0 (q0 ?b32_3 A W 64 hf)
    refine oc0 (fun A W hx hf => ?_) ?_
    exact ok_ext5_1 (q0 ?b32_3 A W 64 hf)
    refine oc0 (fun A W hx hf => ?_) ?_
    exact ok_ext5_2 (q0 ?b32_3 A W 64 hf)
    refine oc0 (fun A W hx hf => ?_) ?_
    exact ok_ext5_3 (q0 ?b32_3 A W 64 hf)
    refine oc0 (fun A W hx hf => ?_) ?_
    exact ok_ext5_4 (q0 ?b32_3 A W 64 hf)
    refine oc0 (fun A W hx hf => ?_) ?_
    exact ok_assign (q0 ?b32_5 A W 69 hf)
    refine oc0 (fun A W hx hf => ?_) ?_
    exact ok_assign (q0 ?b32_6 A W 70 hf)
    refine oc0 (fun A W hx hf => ?_) ?_
    exact ok_assign (q0 ?b32_7 A W 71 hf)
    refine oc0 (fun A W hx hf => ?_) ?_
    exact ok_assign (q0 ?b32_8 A W 72 hf)
    refine oc0 (fun A W hx hf => ?_) ?_
    exact ok_assign (q0 ?b32_9 A W 73 hf)
    exact OpsOk.nil
   case t32 => exact inferInstance
   clear hr; intro a33 w33 x hr hd hs
   revert s4; revert s11; refine kp2 hs rfl ?_; intro s11 s4
   have s13 := fa ?b32_6 a33 w33 13 (hd 11 13 rfl)
   have s16 := fa ?b32_9 a33 w33 16 (hd 14 16 rfl)
   replace e_w := e_w.trans x
   have e_w27 := x
   clear hd hs x
   refine exit_then ?_
   refine wp_seq ?_
   refine wp_seq ?_
   refine wp_reg 82 [[(16, none)], [(74, some 0)]] [?b34_0, ?b34_1] mixed hr ?t34 ?o34 ?_
   case o34 =>
    refine oc0 (fun A W hx hf => ?_) ?_
    exact ok_movE (a0 := a33) (r0 hf)
    refine oc0 (fun A W hx hf => ?_) ?_
    exact ok_not (p1 s16 hx (q0 ?b34_0 A W 74 hf))
    exact OpsOk.nil
   case t34 => exact inferInstance
   clear hr; intro a35 w35 x hr hd hs
   revert s13; revert s4; revert s11; refine kp3 hs rfl ?_; intro s11 s4 s13
   clear s16
   have s75 := fa ?b34_1 a35 w35 75 (hd 1 75 rfl)
   replace e_w := e_w.trans x
   replace e_w27 := e_w27.trans x
   have e_w33 := x
   clear hd hs x
   refine exit_then ?_
   refine wp_cond_split (show _ = _ from s75) (fun hM => ?_) (fun hM => ?_)
   ·
    have hM : (netRead (innerI (cutN l).proto) ((cutP l).drop (cutN l).head.toNat)).ok = false := by simpa using hM
    have hw9 := unwR_no2 hof hM
    refine wp_seq ?_
    refine wp_reg 82 [[], []] [?b37_0, ?b37_1] mixed hr ?t37 ?o37 ?_
    case o37 =>
     refine oc0 (fun A W hx hf => ?_) ?_
     exact ok_assignv (OwnBA 0 w.heap.size 5 []) (fun _ => ownBA_nil)
     refine oc0 (fun A W hx hf => ?_) ?_
     exact ok_assignc
     exact OpsOk.nil
    case t37 => exact inferInstance
    clear hr; intro a38 w38 x hr hd hs
    clear s11 s4 s13 s75
    have s2 := fa ?b37_0 a38 w38 2 (hd 0 2 rfl)
    have s3 := fa ?b37_1 a38 w38 3 (hd 1 3 rfl)
    replace e_w := e_w.trans x
    replace e_w27 := e_w27.trans x
    clear e_w33
    clear hd hs x
    refine exit_then ?_
    refine wp_ret ?_
    refine then_ret ?_
    refine ret_tmp2 Try.results14 hr e_w ?_
    first | (rw [hw9]; exact ⟨_, _, rfl, OwnB.mono s2.own hB, s3⟩)
   ·
    have hM : (netRead (innerI (cutN l).proto) ((cutP l).drop (cutN l).head.toNat)).ok = true := by simpa using hM
    have hw9 := unwR_yes hof hM
    have hpr := cut_right hok (decide ((cutN l).proto = 41))
    have hpt := linkPut_len (L := typedL (cutL l) (decide ((cutN l).proto = 41))) (cutL_ok l)
    have hpt2 := (linkRight_bd hpr).1
    have hMb := net_tot hM
    have hpc : (cutP l).length ≤ l.length := by rw [hcp]; simp [subl]; omega
    refine wp_skip ?_
    refine exit_then ?_
    refine wp_seq ?_
    refine wp_any_start mixed (fun w39 x => ?_)
    show wpAny _ _ _ _ 8 _ _ _
    replace e_w := e_w.trans x
    replace e_w27 := e_w27.trans x
    replace e_w33 := e_w33.trans x
    have e_w35 := x
    clear x
    refine wp_sel (l := [_, _, _, _, _, _, _, _]) 82 _ [false, false, false, false, false, true, true, true] [5, 6, 7] [[(4, none)], [(76, some 0)], [(11, none)], [(13, none)], [(78, some 2), (79, some 3)], [], [], []] [?b40_0, ?b40_1, ?b40_2, ?b40_3, ?b40_4, VP.top, VP.top, VP.top] (by kernel_rfl) rfl (by kernel_rfl) hr ?t40 ?o40 ?_
    case o40 =>
     refine lc0 (fun A W hx hf => ?_) ?_
     exact ok_loadAggS 5 Try.underlying41 rfl size41 (o2 s4 e_w27 hx (r0 hf)) rfl
     refine lc0 (fun A W hx hf => ?_) ?_
     exact ok_call1 body25 (c_r7Put (LinkV.of (show Is (LnkA (typedL (cutL l) (decide ((cutN l).proto = 41))) svl) _ _ from (q0 ?b40_0 A W 76 hf)) (OwnRA.rw (later (e_w27.trans hx) gL))) (by exact cutL_ok l) (by exact hpr) hx.size)
     refine lc0 (fun A W hx hf => ?_) ?_
     exact ok_movE (a0 := a35) (r0 hf)
     refine lc0 (fun A W hx hf => ?_) ?_
     exact ok_movE (a0 := a35) (r0 hf)
     refine lc0 (fun A W hx hf => ?_) ?_
     exact okW_slice_hi ((netRead (innerI (cutN l).proto) ((cutP l).drop (cutN l).head.toNat)).total.toNat) Try.underlying22 size5 (sarg s11 (show _ = _ from (q0 ?b40_2 A W 78 hf))) (Is.int (p2 s13 e_w33 hx (q1 ?b40_3 A W 79 hf)) (by show (netRead (innerI (cutN l).proto) ((cutP l).drop (cutN l).head.toNat)).total = _; omega)) (by omega)
     refine lcs ?_
     refine lcs ?_
     refine lcs ?_
     exact lcn
    case t40 => exact inferInstance
    clear hr; intro a41 w41 x hr hd hs
    have z_w_w39 := e_w.size
    have z_w27_w39 := e_w27.size
    have z_w33_w39 := e_w33.size
    have z_w35_w39 := e_w35.size
    have l41_4 := PxS.lt (later e_w27 s4)
    have l41_gL := OwnRA.lt (later e_w27 gL)
    have u78 := mv s11 (fa ?b40_2 a41 w41 78 (hd 2 78 rfl rfl))
    have u79 := mv s13 (fa ?b40_3 a41 w41 79 (hd 3 79 rfl rfl))
    revert s13; revert s4; revert s11; refine kp3 hs rfl ?_; intro s11 s4 s13
    clear s75
    have s78 := u78; clear u78
    have s79 := u79; clear u79
    have s76 := fa ?b40_0 a41 w41 76 (hd 0 76 rfl rfl)
    have s77 := fa ?b40_1 a41 w41 77 (hd 1 77 rfl rfl)
    have s80 := AtW.base (fa ?b40_4 a41 w41 80 (hd 4 80 rfl rfl))
    obtain ⟨g41_77, q41_77⟩ := OwnB.at s77; clear s77; have n41_77 := OwnBA.lt q41_77
    replace q41_77 := OwnBA.mono q41_77 e_w.size
    have s77 := q41_77; clear q41_77
    replace e_w := e_w.trans x
    replace e_w27 := e_w27.trans x
    replace e_w33 := e_w33.trans x
    clear e_w35
    clear hd hs x
    show wpList _ _ _ [_, _, _] _ _
    have l42 := OwnBA.lt s77
    have l42_gL := OwnRA.lt (later e_w27 gL)
    refine wl_append_bsA hr (by decide) Try.underlying22 info5 rfl s77 (later e_w s80) e_w.size (by simp only [List.length_append, hpt, List.length_take, List.length_drop]; omega) ?_; clear hr; intro g42 a42 w42 hg42 hc hr hd hs
    have hb := hc.below e_w.size l42.1
    clear s11 s4 s13 s78 s79 s76 s80 s77
    have s81 := hd
    replace gL := OwnRA.other (later e_w27 gL) hc (by omega)
    replace e_w := e_w.below (Nat.le_refl _) hb
    clear e_w27
    clear e_w33
    clear hd hs hb hc
    refine wl_op hr (ok_assign s81) inferInstance ?_; clear hr; intro a43 w43 x hr hd hs
    clear s81
    have s2 := hd 2 rfl (by decide)
    replace e_w := e_w.trans x
    have e_w42 := x
    clear hd hs x
    refine wl_op hr (ok_assignc) inferInstance ?_; clear hr; intro a44 w44 x hr hd hs
    revert s2; refine kp1 hs rfl ?_; intro s2
    have s3 := hd 3 rfl (by decide)
    replace e_w := e_w.trans x
    replace e_w42 := e_w42.trans x
    have e_w43 := x
    clear hd hs x
    refine wpList_nil ?_
    refine exit_then ?_
    refine wp_ret ?_
    refine ret_tmp2 Try.results14 hr e_w ?_
    first | (rw [hw9]; exact ⟨_, _, rfl, OwnB.mono (later e_w43 s2).own hB, s3⟩)

end Go.Proofs.Ytnlmppannjebfaa
