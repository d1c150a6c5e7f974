import Derived.Test.YtnlmppannjebfaaC13
import Derived.Test.YtnlmppannjebfaaC13
import Derived.Test.YtnlmppannjebfaaC09c
import Derived.Test.YtnlmppannjebfaaC08
namespace Go.Proofs.Ytnlmppannjebfaa
open Go.RowKit
set_option linter.unusedVariables false
set_option linter.unusedSimpArgs false
set_option maxRecDepth 4000
def D_c_tWrap_0 : List Tmp := [26, 32, 33, 34, 35, 36, 37, 38, 39, 40, 41, 42, 43]
def D_c_tWrap_1 : List Tmp := [11]
set_option maxHeartbeats 1000000 in
theorem c_tWrap {x0 x1 x2 : Value} {w : World} {l : List UInt8} {Sa Da : Adr} {B : Nat} (h0 : (Bs l) x0 w) (h1 : (Is (AdrV Sa)) x1 w) (h2 : (Is (AdrV Da)) x2 w) (hA : Sa.b.length = 16) (hD : Da.b.length = 16) (hn9 : l.length ≤ 900000) (hB : B ≤ w.heap.size) :
    Calls Try.prog 10 #[x0, x1, x2] w (Ret (Tup2 (OwnB B 5 (wrapR l Sa Da).1) (Is (.int .i64 (wrapR l Sa Da).2))) w) := by
 have hlen := Bs.len_le h0
 refine enter Try.func10 rfl Try.ntmps10 (k := 3) rfl (by decide) (fun a0 hr hargs => ?_)
 have s0 := sarg h0 (hargs 0 (by decide))
 have s1 := sarg h1 (hargs 1 (by decide))
 have s2 := sarg h2 (hargs 2 (by decide))
 clear hargs
 refine wp_seq ?_
 refine wp_reg 88 [[(1, none)], [(2, none)], [], []] [?b1_0, ?b1_1, ?b1_2, ?b1_3] mixed hr ?t1 ?o1 ?_
 case o1 =>
  refine oc0 (fun A W hx hf => ?_) ?_
  exact ok_boxS [[.bool Sa.six], Sa.b.map byteV] [1, 16] (Is.conv (o1 s1 hx (r0 hf)) (adr_seg Sa).symm) (by simp [*]) hx.size
  refine oc0 (fun A W hx hf => ?_) ?_
  exact ok_boxS [[.bool Da.six], Da.b.map byteV] [1, 16] (Is.conv (o1 s2 hx (r0 hf)) (adr_seg Da).symm) (by simp [*]) hx.size
  refine oc0 (fun A W hx hf => ?_) ?_
  exact ok_assignv (OwnBA 0 w.heap.size 5 []) (fun _ => ownBA_nil)
  refine oc0 (fun A W hx hf => ?_) ?_
  exact ok_assignc
  exact OpsOk.nil
 case t1 => exact inferInstance
 clear hr; intro a2 w2 x hr hd hs
 revert s0; refine kp1 hs rfl ?_; intro s0
 clear s1 s2
 have s4 := fa ?b1_0 a2 w2 4 (hd 0 4 rfl)
 have s5 := fa ?b1_1 a2 w2 5 (hd 1 5 rfl)
 obtain ⟨g2_4, q2_4⟩ := PxN.at s4; clear s4; have n2_4 := PxS.lt q2_4
 have s4 := q2_4; clear q2_4
 obtain ⟨g2_5, q2_5⟩ := PxN.at s5; clear s5; have n2_5 := PxS.lt q2_5
 have s5 := q2_5; clear q2_5
 have e_w := x
 clear hd hs x
 refine exit_then ?_
 refine wp_seq ?_
 refine wp_reg_pre (l := [_, _, _, _, _, _]) (rest := [_, _, _, _, _]) 88 [[(0, none)], [(17, some 0)], [(18, some 1)], [(16, some 2)], [(16, some 2)], [(16, some 2)]] [?b3_0, ?b3_1, ?b3_1, ?b3_3, ?b3_4, ?b3_5] hr ?t3 ?o3 ?_
 case o3 =>
  refine oc0 (fun A W hx hf => ?_) ?_
  exact ok_movE (a0 := a2) (r0 hf)
  refine oc0 (fun A W hx hf => ?_) ?_
  exact ok_call1 body19 (c_tcut ⟨(p2 s0 e_w hx (q0 ?b3_0 A W 17 hf)), (sarg s0 (show _ = _ from (q0 ?b3_0 A W 17 hf)))⟩ hx.size)
  refine oc0 (fun A W hx hf => ?_) ?_
  exact ok_move (q0 ?b3_1 A W 18 hf)
  refine oc0 (fun A W hx hf => ?_) ?_
  exact ok_ext3_0 (q0 ?b3_1 A W 16 hf)
  refine oc0 (fun A W hx hf => ?_) ?_
  exact ok_ext3_1 (q0 ?b3_1 A W 16 hf)
  refine oc0 (fun A W hx hf => ?_) ?_
  exact ok_ext3_2 (q0 ?b3_1 A W 16 hf)
  exact OpsOk.nil
 case t3 => exact inferInstance
 clear hr; intro a4 w4 x hr hd hs
 have l4_4 := PxS.lt s4
 have l4_5 := PxS.lt s5
 revert s5; revert s4; refine kp2 hs rfl ?_; intro s4 s5
 clear s0
 have s19 := fa ?b3_3 a4 w4 19 (hd 3 19 rfl)
 have s20 := fa ?b3_4 a4 w4 20 (hd 4 20 rfl)
 have s21 := AtW.base (fa ?b3_5 a4 w4 21 (hd 5 21 rfl))
 obtain ⟨svl, s19, gL⟩ := LinkO.open s19; obtain ⟨g4_19, gL⟩ := OwnR.at gL; have n4_19 := OwnRA.lt gL
 replace gL := OwnRA.mono gL e_w.size
 replace e_w := e_w.trans x
 have e_w2 := x
 clear hd hs x
 have l5_4 := PxS.lt (later e_w2 s4)
 have l5_5 := PxS.lt (later e_w2 s5)
 have l5_gL := OwnRA.lt gL
 refine wl_op hr (ok_allocS (lnkS link0 (.slice none 0 0)) [6, 6, 1, 1, 1] zerov41 (by rfl) (by rfl) (Nat.le_refl _)) inferInstance ?_; clear hr; intro a5 w5 x hr hd hs
 revert s19; revert s21; revert s20; revert s5; revert s4; refine kp5 hs rfl ?_; intro s4 s5 s20 s21 s19
 have s8 := hd 8 rfl (by decide)
 obtain ⟨g5_8, q5_8⟩ := PxN.at s8; clear s8; have n5_8 := PxS.lt q5_8
 replace q5_8 := PxS.mono q5_8 e_w.size
 have s8 := q5_8; clear q5_8
 replace e_w := e_w.trans x
 replace e_w2 := e_w2.trans x
 have e_w4 := x
 clear hd hs x
 have l6_4 := PxS.lt (later e_w2 s4)
 have l6_5 := PxS.lt (later e_w2 s5)
 have l6_8 := PxS.lt s8
 have l6_gL := OwnRA.lt (later e_w4 gL)
 refine wl_op hr (ok_allocS (netS net0) [1, 1, 1, 1, 1] zerov54 (by rfl) (by rfl) (Nat.le_refl _)) inferInstance ?_; clear hr; intro a6 w6 x hr hd hs
 revert s8; revert s19; revert s21; revert s20; revert s5; revert s4; refine kp6 hs rfl ?_; intro s4 s5 s20 s21 s19 s8
 have s9 := hd 9 rfl (by decide)
 obtain ⟨g6_9, q6_9⟩ := PxN.at s9; clear s9; have n6_9 := PxS.lt q6_9
 replace q6_9 := PxS.mono q6_9 e_w.size
 have s9 := q6_9; clear q6_9
 replace e_w := e_w.trans x
 replace e_w2 := e_w2.trans x
 replace e_w4 := e_w4.trans x
 have e_w5 := x
 clear hd hs x
 have z7 := PxS.lt (later e_w5 s8)
 have l7 := (show (g5_8 = 0 ∨ w.heap.size < g5_8) ∧ True from ⟨by omega, trivial⟩)
 have l7_4 := PxS.lt (later e_w2 s4)
 have l7_5 := PxS.lt (later e_w2 s5)
 have l7_9 := PxS.lt s9
 have l7_gL := OwnRA.lt (later e_w4 gL)
 refine wl_storeSm (lnkS (cutL l) svl) hr size41 (later e_w5 s8) (later e_w4 s19) (by exact lnkS_lens (cutL_ok _)) (by exact lnk_one (rw_one (OwnRA.rw (later e_w4 gL)))) rfl ?_; clear hr; intro a7 w7 hc hu hr hs
 have hb : Below w.heap.size w6 w7 := hc.below e_w.size l7.1
 revert s9; revert s8; revert s21; revert s20; revert s5; revert s4; refine kp6 hs rfl ?_; intro s4 s5 s20 s21 s8 s9
 clear s19
 replace s4 := PxS.other (later e_w2 s4) hc (by omega)
 replace s5 := PxS.other (later e_w2 s5) hc (by omega)
 replace s8 := hu _ _ _ (later e_w5 s8)
 try simp only [List.set_cons_zero, List.set_cons_succ] at s8
 replace s9 := PxS.other s9 hc (by omega)
 replace gL := OwnRA.other (later e_w4 gL) hc (by omega)
 replace e_w := e_w.below (Nat.le_refl _) hb
 clear e_w2
 clear e_w4
 clear e_w5
 replace s20 := anyw (w2 := w7) s20
 clear hu hs hc hb
 have z8 := PxS.lt s9
 have l8 := (show (g6_9 = 0 ∨ w.heap.size < g6_9) ∧ True from ⟨by omega, trivial⟩)
 have l8_4 := PxS.lt s4
 have l8_5 := PxS.lt s5
 have l8_8 := PxS.lt s8
 have l8_gL := OwnRA.lt gL
 refine wl_storeSm (netS (cutN l)) hr size54 s9 s20 (by rfl) (by exact net_one) rfl ?_; clear hr; intro a8 w8 hc hu hr hs
 have hb : Below w.heap.size w7 w8 := hc.below e_w.size l8.1
 revert s9; revert s8; revert s5; revert s4; revert s21; refine kp5 hs rfl ?_; intro s21 s4 s5 s8 s9
 clear s20
 replace s4 := PxS.other s4 hc (by omega)
 replace s5 := PxS.other s5 hc (by omega)
 replace s8 := PxS.other s8 hc (by omega)
 replace s9 := hu _ _ _ s9
 try simp only [List.set_cons_zero, List.set_cons_succ] at s9
 replace gL := OwnRA.other gL hc (by omega)
 replace e_w := e_w.below (Nat.le_refl _) hb
 clear hu hs hc hb
 refine wl_op hr (ok_assign (show AtW w _ _ _ from s21)) inferInstance ?_; clear hr; intro a9 w9 x hr hd hs
 revert s9; revert s8; revert s5; revert s4; refine kp4 hs rfl ?_; intro s4 s5 s8 s9
 clear s21
 have s10 := AtW.base (hd 10 rfl (by decide))
 replace e_w := e_w.trans x
 have e_w8 := x
 clear hd hs x
 refine wpList_nil ?_
 refine exit_then ?_
 refine wp_seq ?_
 refine wp_block ?_
 refine wp_seq ?_
 refine wp_reg 88 [[(9, none)], [(23, some 0)], [(24, some 1)], [(25, some 2)]] [?b10_0, ?b10_1, ?b10_2, ?b10_2] mixed hr ?t10 ?o10 ?_
 case o10 =>
  refine oc0 (fun A W hx hf => ?_) ?_
  exact ok_fieldS 4 Try.underlying54 (k := 4) rfl size4 rfl (o2 s9 e_w8 hx (r0 hf)) rfl
  refine oc0 (fun A W hx hf => ?_) ?_
  exact ok_loadS Try.underlying4 rfl (q0 ?b10_0 A W 23 hf) rfl
  refine oc0 (fun A W hx hf => ?_) ?_
  exact ok_not (q0 ?b10_1 A W 24 hf)
  refine oc0 (fun A W hx hf => ?_) ?_
  exact ok_assign (q0 ?b10_2 A W 25 hf)
  exact OpsOk.nil
 case t10 => exact inferInstance
 clear hr; intro a11 w11 x hr hd hs
 revert s10; revert s8; revert s5; revert s4; refine kp4 hs rfl ?_; intro s4 s5 s8 s10
 clear s9
 have s22 := fa ?b10_2 a11 w11 22 (hd 3 22 rfl)
 replace e_w := e_w.trans x
 replace e_w8 := e_w8.trans x
 clear hd hs x
 refine exit_then ?_
 refine wp_cond_split (show _ = _ from s22) (fun hok => ?_) (fun hok => ?_)
 ·
  have hok : (cutN l).ok = false := by simpa using hok
  have hw9 := wrapR_3 (A := Sa) (D := Da) hok
  refine wp_seq ?_
  refine wp_reg 88 [[], []] [?b13_0, ?b13_1] mixed hr ?t13 ?o13 ?_
  case o13 =>
   refine oc0 (fun A W hx hf => ?_) ?_
   exact ok_assignv (OwnBA 0 w.heap.size 5 []) (fun _ => ownBA_nil)
   refine oc0 (fun A W hx hf => ?_) ?_
   exact ok_assignc
   exact OpsOk.nil
  case t13 => exact inferInstance
  clear hr; intro a14 w14 x hr hd hs
  clear s4 s5 s8 s10 s22
  have s6 := fa ?b13_0 a14 w14 6 (hd 0 6 rfl)
  have s7 := fa ?b13_1 a14 w14 7 (hd 1 7 rfl)
  replace e_w := e_w.trans x
  replace e_w8 := e_w8.trans x
  clear hd hs x
  refine exit_then ?_
  refine wp_ret ?_
  refine blk_ret ?_
  refine then_ret ?_
  refine ret_tmp2 Try.results10 hr e_w ?_
  first | (rw [hw9]; exact ⟨_, _, rfl, OwnB.mono s6.own hB, s7⟩) | (rw [hw9]; exact ⟨_, _, rfl, OwnB.cast (OwnB.mono s6.own hB) (by rw [hpr]; simp), s7⟩)
 ·
  have hok : (cutN l).ok = true := by simpa using hok
  obtain ⟨hP, hH20, hHT⟩ := cutP_len hok
  have hPn : (cutP l).length ≤ l.length := by have := cutN_ok hok; unfold cutP; rw [if_pos this]; simp [subl]; omega
  refine wp_seq ?_
  refine wp_seq ?_
  refine wp_reg 88 [[(4, none)], [(27, some 0)], [(5, none)], [(29, some 2)], [(28, some 1), (30, some 3)], [(31, some 4)]] [?b15_0, ?b15_1, ?b15_2, ?b15_3, ?b15_4, ?b15_4] mixed hr ?t15 ?o15 ?_
  case o15 =>
   refine oc0 (fun A W hx hf => ?_) ?_
   exact ok_fieldS 0 Try.underlying25 (k := 0) rfl size4 rfl (o2 s4 e_w8 hx (r0 hf)) rfl
   refine oc0 (fun A W hx hf => ?_) ?_
   exact ok_loadS Try.underlying4 rfl (q0 ?b15_0 A W 27 hf) rfl
   refine oc0 (fun A W hx hf => ?_) ?_
   exact ok_fieldS 0 Try.underlying25 (k := 0) rfl size4 rfl (o2 s5 e_w8 hx (r0 hf)) rfl
   refine oc0 (fun A W hx hf => ?_) ?_
   exact ok_loadS Try.underlying4 rfl (q0 ?b15_2 A W 29 hf) rfl
   refine oc0 (fun A W hx hf => ?_) ?_
   exact ok_neb Try.underlying4 (q0 ?b15_1 A W 28 hf) (q1 ?b15_3 A W 30 hf)
   refine oc0 (fun A W hx hf => ?_) ?_
   exact ok_assign (q0 ?b15_4 A W 31 hf)
   exact OpsOk.nil
  case t15 => exact inferInstance
  clear hr; intro a16 w16 x hr hd hs
  revert s10; revert s8; revert s5; revert s4; refine kp4 hs rfl ?_; intro s4 s5 s8 s10
  clear s22
  have s26 := fa ?b15_4 a16 w16 26 (hd 5 26 rfl)
  replace e_w := e_w.trans x
  replace e_w8 := e_w8.trans x
  clear hd hs x
  refine exit_then ?_
  refine wp_cut (fun A W => Fr 88 A ∧ Same D_c_tWrap_0 a16 A ∧ Ext w W ∧ Ext w8 W ∧ (Is (.bool (!famB Sa Da))) (A.eval (.tmp 26)) W) ?cut17 ?_
  case cut17 =>
   have m17 : Same D_c_tWrap_0 a16 a16 := Same.rfl
   refine wp_cond_split (show _ = _ from s26) (fun hne => ?_) (fun hne => ?_)
   ·
    skip
    refine wp_skip ?_
    refine exit_then ?_
    refine ⟨hr, m17, e_w, e_w8, ?_⟩
    · first | exact Is.bool s26 (by rw [hne]; unfold famB; rw [if_pos hne]; rfl) | exact Is.bool s26 (fam_plain hne)
   ·
    skip
    refine wp_reg 88 [[(4, none)], [(32, some 0)], [(33, some 1)], [(34, some 2)], [(4, none), (35, some 3)], [(36, some 4), (35, some 3)], [(37, some 5), (35, some 3)], [(5, none), (38, some 6)], [(39, some 7), (38, some 6)], [(38, some 6), (40, some 8), (35, some 3)], [(41, some 9), (35, some 3)], [(35, some 3), (42, some 10)], [(43, some 11)]] [?b19_0, ?b19_1, ?b19_2, ?b19_2, ?b19_4, ?b19_5, ?b19_5, ?b19_7, ?b19_8, ?b19_9, ?b19_10, ?b19_11, ?b19_11] mixed hr ?t19 ?o19 ?_
    case o19 =>
     refine oc0 (fun A W hx hf => ?_) ?_
     exact ok_fieldS 0 Try.underlying25 (k := 0) rfl size4 rfl (o2 s4 e_w8 hx (r0 hf)) rfl
     refine oc0 (fun A W hx hf => ?_) ?_
     exact ok_loadS Try.underlying4 rfl (q0 ?b19_0 A W 32 hf) rfl
     refine oc0 (fun A W hx hf => ?_) ?_
     exact ok_not (q0 ?b19_1 A W 33 hf)
     refine oc0 (fun A W hx hf => ?_) ?_
     exact ok_move (q0 ?b19_2 A W 34 hf)
     refine ocg 35 ?_ (fun A W hx hf => ?_) ?_
     rfl
     exact gd_t (q1 ?b19_2 A W 35 hf) (fun hc => ok_loadAggS 2 Try.underlying25 rfl size25 (o2 s4 e_w8 hx (r0 hf)) rfl)
     refine ocg 35 ?_ (fun A W hx hf => ?_) ?_
     rfl
     exact gd_t (q1 ?b19_2 A W 35 hf) (fun hc => ok_call1 body20 (c_plain (Is.conv (G.get (q0 ?b19_4 A W 36 hf) hc) (adr_seg Sa)) (by exact hA)))
     refine ocg 35 ?_ (fun A W hx hf => ?_) ?_
     rfl
     exact gd_t (q1 ?b19_2 A W 35 hf) (fun hc => ok_move (G.get (q0 ?b19_5 A W 37 hf) hc))
     refine ocg 38 ?_ (fun A W hx hf => ?_) ?_
     rfl
     exact gd_gt (q1 ?b19_5 A W 38 hf) (fun hc => ok_loadAggS 2 Try.underlying25 rfl size25 (o2 s5 e_w8 hx (r0 hf)) rfl)
     refine ocg 38 ?_ (fun A W hx hf => ?_) ?_
     rfl
     exact gd_gt (q1 ?b19_5 A W 38 hf) (fun hc => ok_call1 body20 (c_plain (Is.conv (G.get (q0 ?b19_7 A W 39 hf) hc) (adr_seg Da)) (by exact hD)))
     refine ocg 35 ?_ (fun A W hx hf => ?_) ?_
     rfl
     exact gd_t (q2 ?b19_2 A W 35 hf) (fun hc => ok_and (G.get (q0 ?b19_5 A W 38 hf) hc) (G.strip hc (q1 ?b19_8 A W 40 hf)))
     refine ocg 35 ?_ (fun A W hx hf => ?_) ?_
     rfl
     exact gd_t (q1 ?b19_2 A W 35 hf) (fun hc => ok_not (G.get (q0 ?b19_9 A W 41 hf) hc))
     refine oc0 (fun A W hx hf => ?_) ?_
     exact ok_and (q0 ?b19_2 A W 35 hf) (q1 ?b19_10 A W 42 hf)
     refine oc0 (fun A W hx hf => ?_) ?_
     exact ok_assign (q0 ?b19_11 A W 43 hf)
     exact OpsOk.nil
    case t19 => exact inferInstance
    clear hr; intro a20 w20 x hr hd hs
    revert s10; revert s8; revert s5; revert s4; refine kp4 hs rfl ?_; intro s4 s5 s8 s10
    clear s26
    have s26 := fa ?b19_11 a20 w20 26 (hd 12 26 rfl)
    replace e_w := e_w.trans x
    replace e_w8 := e_w8.trans x
    replace m17 := m17.tr hs rfl
    clear hd hs x
    refine exit_then ?_
    refine ⟨hr, m17, e_w, e_w8, ?_⟩
    · first | exact Is.bool s26 (by rw [hne]; unfold famB; rw [if_pos hne]; rfl) | exact Is.bool s26 (fam_plain hne)
  intro a17 w17 hI
  clear e_w
  clear e_w8
  clear hr; obtain ⟨hr, hs, e_w, e_w8, u26⟩ := hI
  revert s10; revert s8; revert s5; revert s4; refine kp4 hs rfl ?_; intro s4 s5 s8 s10
  clear s26
  have s26 := u26; clear u26
  clear hs
  refine wp_cond_split (show _ = _ from s26) (fun hf => ?_) (fun hf => ?_)
  ·
   have hf : famB Sa Da = false := by simpa using hf
   have hw9 := wrapR_1 hok hf
   refine wp_seq ?_
   refine wp_reg 88 [[], []] [?b22_0, ?b22_1] mixed hr ?t22 ?o22 ?_
   case o22 =>
    refine oc0 (fun A W hx hf => ?_) ?_
    exact ok_assignv (OwnBA 0 w.heap.size 5 []) (fun _ => ownBA_nil)
    refine oc0 (fun A W hx hf => ?_) ?_
    exact ok_assignc
    exact OpsOk.nil
   case t22 => exact inferInstance
   clear hr; intro a23 w23 x hr hd hs
   clear s4 s5 s8 s10 s26
   have s6 := fa ?b22_0 a23 w23 6 (hd 0 6 rfl)
   have s7 := fa ?b22_1 a23 w23 7 (hd 1 7 rfl)
   replace e_w := e_w.trans x
   replace e_w8 := e_w8.trans x
   clear hd hs x
   refine exit_then ?_
   refine wp_ret ?_
   refine blk_ret ?_
   refine then_ret ?_
   refine ret_tmp2 Try.results10 hr e_w ?_
   first | (rw [hw9]; exact ⟨_, _, rfl, OwnB.mono s6.own hB, s7⟩) | (rw [hw9]; exact ⟨_, _, rfl, OwnB.cast (OwnB.mono s6.own hB) (by rw [hpr]; simp), s7⟩)
  ·
   have hf : famB Sa Da = true := by simpa using hf
   refine wp_skip ?_
   refine blk_normal ?_
   refine exit_then ?_
   refine wp_seq ?_
   refine wp_reg 88 [[]] [?b24_0] mixed hr ?t24 ?o24 ?_
   case o24 =>
    refine oc0 (fun A W hx hf => ?_) ?_
    exact ok_assignc
    exact OpsOk.nil
   case t24 => exact inferInstance
   clear hr; intro a25 w25 x hr hd hs
   revert s10; revert s8; revert s5; revert s4; refine kp4 hs rfl ?_; intro s4 s5 s8 s10
   clear s26
   have s11 := fa ?b24_0 a25 w25 11 (hd 0 11 rfl)
   replace e_w := e_w.trans x
   replace e_w8 := e_w8.trans x
   clear hd hs x
   refine exit_then ?_
   refine wp_seq ?_
   refine wp_seq ?_
   refine wp_reg 88 [[(8, none)], [(44, some 0)], [(45, some 1)]] [?b26_0, ?b26_1, ?b26_2] mixed hr ?t26 ?o26 ?_
   case o26 =>
    refine oc0 (fun A W hx hf => ?_) ?_
    exact ok_fieldS 3 Try.underlying41 (k := 3) rfl size3 rfl (o2 s8 e_w8 hx (r0 hf)) rfl
    refine oc0 (fun A W hx hf => ?_) ?_
    exact ok_loadS Try.underlying3 rfl (q0 ?b26_0 A W 44 hf) rfl
    refine oc0 (fun A W hx hf => ?_) ?_
    exact ok_eql (q0 ?b26_1 A W 45 hf) (ec A (.int .i64 34525))
    exact OpsOk.nil
   case t26 => exact inferInstance
   clear hr; intro a27 w27 x hr hd hs
   revert s11; revert s10; revert s8; revert s5; revert s4; refine kp5 hs rfl ?_; intro s4 s5 s8 s10 s11
   have s46 := fa ?b26_2 a27 w27 46 (hd 2 46 rfl)
   replace e_w := e_w.trans x
   replace e_w8 := e_w8.trans x
   have e_w25 := x
   clear hd hs x
   refine exit_then ?_
   refine wp_cut (fun A W => Fr 88 A ∧ Same D_c_tWrap_1 a27 A ∧ Ext w W ∧ Ext w8 W ∧ (Is (.int .i64 (ipip l))) (A.eval (.tmp 11)) W) ?cut28 ?_
   case cut28 =>
    have m28 : Same D_c_tWrap_1 a27 a27 := Same.rfl
    refine wp_cond_split (show _ = _ from s46) (fun ht9 => ?_) (fun ht9 => ?_)
    ·
     have ht9 : (cutL l).type = 34525 := by simpa using ht9
     refine wp_reg 88 [[]] [?b30_0] mixed hr ?t30 ?o30 ?_
     case o30 =>
      refine oc0 (fun A W hx hf => ?_) ?_
      exact ok_assignc
      exact OpsOk.nil
     case t30 => exact inferInstance
     clear hr; intro a31 w31 x hr hd hs
     revert s10; revert s8; revert s5; revert s4; refine kp4 hs rfl ?_; intro s4 s5 s8 s10
     clear s11 s46
     have s11 := fa ?b30_0 a31 w31 11 (hd 0 11 rfl)
     replace e_w := e_w.trans x
     replace e_w8 := e_w8.trans x
     clear e_w25
     replace m28 := m28.tr hs rfl
     clear hd hs x
     refine exit_then ?_
     refine ⟨hr, m28, e_w, e_w8, ?_⟩
     · first | exact Is.int s11 (by unfold ipip; rw [if_pos ht9]) | exact Is.int s11 (by unfold ipip; rw [if_neg ht9])
    ·
     have ht9 : ¬ (cutL l).type = 34525 := by simpa using ht9
     refine wp_skip ?_
     refine exit_then ?_
     refine ⟨hr, m28, e_w, e_w8, ?_⟩
     · first | exact Is.int (later e_w25 s11) (by unfold ipip; rw [if_pos ht9]) | exact Is.int (later e_w25 s11) (by unfold ipip; rw [if_neg ht9])
   intro a28 w28 hI
   clear e_w
   clear e_w8
   clear e_w25
   clear hr; obtain ⟨hr, hs, e_w, e_w8, u11⟩ := hI
   revert s10; revert s8; revert s5; revert s4; refine kp4 hs rfl ?_; intro s4 s5 s8 s10
   clear s11 s46
   have s11 := u11; clear u11
   clear hs
   refine wp_seq ?_
   refine wp_seq ?_
   refine wp_reg 88 [[(4, none)], [(47, some 0)]] [?b32_0, ?b32_1] mixed hr ?t32 ?o32 ?_
   case o32 =>
    refine oc0 (fun A W hx hf => ?_) ?_
    exact ok_fieldS 0 Try.underlying25 (k := 0) rfl size4 rfl (o2 s4 e_w8 hx (r0 hf)) rfl
    refine oc0 (fun A W hx hf => ?_) ?_
    exact ok_loadS Try.underlying4 rfl (q0 ?b32_0 A W 47 hf) rfl
    exact OpsOk.nil
   case t32 => exact inferInstance
   clear hr; intro a33 w33 x hr hd hs
   revert s11; revert s10; revert s8; revert s5; revert s4; refine kp5 hs rfl ?_; intro s4 s5 s8 s10 s11
   have s48 := fa ?b32_1 a33 w33 48 (hd 1 48 rfl)
   replace e_w := e_w.trans x
   replace e_w8 := e_w8.trans x
   have e_w28 := x
   clear hd hs x
   refine exit_then ?_
   refine wp_cond_split (show _ = _ from s48) (fun h6 => ?_) (fun h6 => ?_)
   ·
    skip
    refine wp_seq ?_
    refine wp_seq ?_
    refine wp_reg 88 [[(10, none)], [(49, some 0)], [(50, some 1)]] [?b35_0, ?b35_1, ?b35_2] mixed hr ?t35 ?o35 ?_
    case o35 =>
     refine oc0 (fun A W hx hf => ?_) ?_
     exact ok_movE (a0 := a33) (r0 hf)
     refine oc0 (fun A W hx hf => ?_) ?_
     exact ok_len_bs Try.underlying22 (p2 s10 e_w hx (q0 ?b35_0 A W 49 hf))
     refine oc0 (fun A W hx hf => ?_) ?_
     exact ok_gtr (q0 ?b35_1 A W 50 hf) (ec A (.int .i64 65535))
     exact OpsOk.nil
    case t35 => exact inferInstance
    clear hr; intro a36 w36 x hr hd hs
    revert s11; revert s10; revert s8; revert s5; revert s4; refine kp5 hs rfl ?_; intro s4 s5 s8 s10 s11
    clear s48
    have s51 := fa ?b35_2 a36 w36 51 (hd 2 51 rfl)
    replace e_w := e_w.trans x
    replace e_w8 := e_w8.trans x
    replace e_w28 := e_w28.trans x
    clear hd hs x
    refine exit_then ?_
    refine wp_cond_split (show _ = _ from s51) (fun hb => ?_) (fun hb => ?_)
    ·
     have hb : (cutN l).total > 65535 := by rw [← hP]; simpa using hb
     have hw9 := wrapR_64 hok hf h6 hb
     refine wp_seq ?_
     refine wp_reg 88 [[], []] [?b38_0, ?b38_1] mixed hr ?t38 ?o38 ?_
     case o38 =>
      refine oc0 (fun A W hx hf => ?_) ?_
      exact ok_assignv (OwnBA 0 w.heap.size 5 []) (fun _ => ownBA_nil)
      refine oc0 (fun A W hx hf => ?_) ?_
      exact ok_assignc
      exact OpsOk.nil
     case t38 => exact inferInstance
     clear hr; intro a39 w39 x hr hd hs
     clear s4 s5 s8 s10 s11 s51
     have s6 := fa ?b38_0 a39 w39 6 (hd 0 6 rfl)
     have s7 := fa ?b38_1 a39 w39 7 (hd 1 7 rfl)
     replace e_w := e_w.trans x
     replace e_w8 := e_w8.trans x
     clear e_w28
     clear hd hs x
     refine exit_then ?_
     refine wp_ret ?_
     refine then_ret ?_
     refine then_ret ?_
     refine ret_tmp2 Try.results10 hr e_w ?_
     first | (rw [hw9]; exact ⟨_, _, rfl, OwnB.mono s6.own hB, s7⟩) | (rw [hw9]; exact ⟨_, _, rfl, OwnB.cast (OwnB.mono s6.own hB) (by rw [hpr]; simp), s7⟩)
    ·
     have hb : ¬ (cutN l).total > 65535 := by rw [← hP]; simpa using hb
     have hw9 := wrapR_6 hok hf h6 hb
     have hrt := wrap6_right (l := l) (n := (cutN l).total) h6 hf (by omega)
     have hpl9 := sixPut_len (H := six40 (wrapT l Sa Da) (cutN l).total) ⟨hA, hD⟩
     have hpr : linkPutR { cutL l with type := 34525 } = (linkPut (typedL (cutL l) true), 0) := put_typed hok true
     refine wp_skip ?_
     refine exit_then ?_
     refine wp_seq ?_
     refine wp_reg 88 [[(10, none)], [(53, some 0)], [(54, some 1)], [(11, none)], [(4, none)], [(5, none)], [(55, some 2), (56, some 3), (57, some 4), (58, some 5)], [(59, some 6)], [(60, some 7)], [(52, some 8)], [(52, some 8)], [(61, some 9)], [(62, some 10)]] [?b40_0, ?b40_1, ?b40_2, ?b40_3, ?b40_4, ?b40_5, ?b40_6, ?b40_7, ?b40_7, ?b40_9, ?b40_10, ?b40_9, ?b40_10] mixed hr ?t40 ?o40 ?_
     case o40 =>
      refine oc0 (fun A W hx hf => ?_) ?_
      exact ok_movE (a0 := a36) (r0 hf)
      refine oc0 (fun A W hx hf => ?_) ?_
      exact ok_len_bs Try.underlying22 (p2 s10 e_w hx (q0 ?b40_0 A W 53 hf))
      refine oc0 (fun A W hx hf => ?_) ?_
      exact ok_addI (ec A (.int .i64 40)) (q0 ?b40_1 A W 54 hf) (by omega)
      refine oc0 (fun A W hx hf => ?_) ?_
      exact ok_movE (a0 := a36) (r0 hf)
      refine oc0 (fun A W hx hf => ?_) ?_
      exact ok_loadAggS 2 Try.underlying25 rfl size25 (o2 s4 e_w8 hx (r0 hf)) rfl
      refine oc0 (fun A W hx hf => ?_) ?_
      exact ok_loadAggS 2 Try.underlying25 rfl size25 (o2 s5 e_w8 hx (r0 hf)) rfl
      refine oc0 (fun A W hx hf => ?_) ?_
      exact ok_buildS [(0, (.const (.int .i64 40))), (1, (.tmp 55)), (2, (.const (.int .i64 64))), (5, (.tmp 56)), (6, (.tmp 57)), (7, (.tmp 58))] [(0, _), (1, _), (2, _), (5, _), (6, _), (7, _)] lay60 rfl (PartsC.one (ec A (.int .i64 40)) rfl (PartsC.one (q0 ?b40_2 A W 55 hf) rfl (PartsC.one (ec A (.int .i64 64)) rfl (PartsC.one (p2 s11 e_w28 hx (q1 ?b40_3 A W 56 hf)) rfl (PartsC.agg (q2 ?b40_4 A W 57 hf) (PartsC.agg (q3 ?b40_5 A W 58 hf) (PartsC.nil))))))) (by simp [hA, hD])
      refine oc0 (fun A W hx hf => ?_) ?_
      exact ok_call1 body21 (c_xPut (Is.conv (q0 ?b40_6 A W 59 hf) (show _ = SixV (six40 (wrapT l Sa Da) (cutN l).total) from by rw [← hP]; simp [SixV, sixS, six40, wrapT, adrCells, setAll])) (by exact ⟨hA, hD⟩) hx.size)
      refine oc0 (fun A W hx hf => ?_) ?_
      exact ok_move (q0 ?b40_7 A W 60 hf)
      refine oc0 (fun A W hx hf => ?_) ?_
      exact ok_ext0 (q0 ?b40_7 A W 52 hf)
      refine oc0 (fun A W hx hf => ?_) ?_
      exact ok_ext1 (q0 ?b40_7 A W 52 hf)
      refine oc0 (fun A W hx hf => ?_) ?_
      exact ok_assign (q0 ?b40_9 A W 61 hf)
      refine oc0 (fun A W hx hf => ?_) ?_
      exact ok_assign (q0 ?b40_10 A W 62 hf)
      exact OpsOk.nil
     case t40 => exact inferInstance
     clear hr; intro a41 w41 x hr hd hs
     have z_w_w36 := e_w.size
     have z_w8_w36 := e_w8.size
     have z_w28_w36 := e_w28.size
     have l41_4 := PxS.lt (later e_w8 s4)
     have l41_5 := PxS.lt (later e_w8 s5)
     have l41_8 := PxS.lt (later e_w8 s8)
     have l41_gL := OwnRA.lt (later e_w8 gL)
     revert s10; revert s8; refine kp2 hs rfl ?_; intro s8 s10
     clear s4 s5 s11 s51
     have s12 := fa ?b40_9 a41 w41 12 (hd 11 12 rfl)
     obtain ⟨g41_12, q41_12⟩ := OwnB.at s12; clear s12; have n41_12 := OwnBA.lt q41_12
     replace q41_12 := OwnBA.mono q41_12 e_w.size
     have s12 := q41_12; clear q41_12
     replace e_w := e_w.trans x
     replace e_w8 := e_w8.trans x
     clear e_w28
     clear hd hs x
     replace s12 := OwnBA.cast s12 (show _ = sixPut (six40 (wrapT l Sa Da) (cutN l).total) from by unfold sixPutR; rw [if_pos hrt])
     refine exit_then ?_
     refine wp_seq ?_
     refine wp_reg 88 [[(8, none)], [(12, none)], [(10, none)], [(64, some 1), (65, some 2)], [(63, some 0), (66, some 3)], [(67, some 4)], []] [?b42_0, ?b42_1, ?b42_2, ?b42_3, ?b42_4, ?b42_4, ?b42_6] mixed hr ?t42 ?o42 ?_
     case o42 =>
      refine oc0 (fun A W hx hf => ?_) ?_
      exact ok_loadAggS 5 Try.underlying41 rfl size41 (o2 s8 e_w8 hx (r0 hf)) rfl
      refine oc0 (fun A W hx hf => ?_) ?_
      exact ok_movE (a0 := a41) (r0 hf)
      refine oc0 (fun A W hx hf => ?_) ?_
      exact ok_movE (a0 := a41) (r0 hf)
      refine oc0 (fun A W hx hf => ?_) ?_
      exact ok_buildBss [(.tmp 64), (.tmp 65)] [_, _] Try.underlying88 size22 zero22 rfl rfl (by decide) (PartsOk.cons (OwnBA.bs (p1 s12 hx (q0 ?b42_1 A W 64 hf))) (PartsOk.cons (p2 s10 e_w hx (q1 ?b42_2 A W 65 hf)) (PartsOk.nil)))
      refine oc0 (fun A W hx hf => ?_) ?_
      exact ok_call3 body22 (c_join (LinkV.of (show Is (LnkA (cutL l) svl) _ _ from (q0 ?b42_0 A W 63 hf)) (OwnRA.rw (later (e_w8.trans hx) gL))) (show Is (.int .i64 34525) (A.eval (.const (.int .i64 34525))) _ from rfl) (q1 ?b42_3 A W 66 hf) (by exact cutL_ok _) (by simp only [List.flatten_cons, List.flatten_nil, List.append_nil, List.length_append, hpl9]; omega) hx.size)
      refine oc0 (fun A W hx hf => ?_) ?_
      exact ok_assign (q0 ?b42_4 A W 67 hf)
      refine oc0 (fun A W hx hf => ?_) ?_
      exact ok_assignc
      exact OpsOk.nil
     case t42 => exact inferInstance
     clear hr; intro a43 w43 x hr hd hs
     have z_w_w41 := e_w.size
     have z_w8_w41 := e_w8.size
     have l43_8 := PxS.lt (later e_w8 s8)
     have l43_12 := OwnBA.lt s12
     have l43_gL := OwnRA.lt (later e_w8 gL)
     clear s8 s10 s12
     have s6 := fa ?b42_4 a43 w43 6 (hd 5 6 rfl)
     have s7 := fa ?b42_6 a43 w43 7 (hd 6 7 rfl)
     obtain ⟨g43_6, q43_6⟩ := OwnB.at s6; clear s6; have n43_6 := OwnBA.lt q43_6
     replace q43_6 := OwnBA.mono q43_6 e_w.size
     have s6 := q43_6; clear q43_6
     replace e_w := e_w.trans x
     replace e_w8 := e_w8.trans x
     clear hd hs x
     refine exit_then ?_
     refine wp_ret ?_
     refine then_ret ?_
     refine ret_tmp2 Try.results10 hr e_w ?_
     first | (rw [hw9]; exact ⟨_, _, rfl, OwnB.mono s6.own hB, s7⟩) | (rw [hw9]; exact ⟨_, _, rfl, OwnB.cast (OwnB.mono s6.own hB) (by rw [hpr]; simp), s7⟩)
   ·
    skip
    refine wp_skip ?_
    refine exit_then ?_
    refine wp_seq ?_
    refine wp_seq ?_
    refine wp_reg 88 [[(10, none)], [(68, some 0)], [(69, some 1)], [(70, some 2)]] [?b44_0, ?b44_1, ?b44_2, ?b44_3] mixed hr ?t44 ?o44 ?_
    case o44 =>
     refine oc0 (fun A W hx hf => ?_) ?_
     exact ok_movE (a0 := a33) (r0 hf)
     refine oc0 (fun A W hx hf => ?_) ?_
     exact ok_len_bs Try.underlying22 (p2 s10 e_w hx (q0 ?b44_0 A W 68 hf))
     refine oc0 (fun A W hx hf => ?_) ?_
     exact ok_addI (ec A (.int .i64 20)) (q0 ?b44_1 A W 69 hf) (by omega)
     refine oc0 (fun A W hx hf => ?_) ?_
     exact ok_gtr (q0 ?b44_2 A W 70 hf) (ec A (.int .i64 65535))
     exact OpsOk.nil
    case t44 => exact inferInstance
    clear hr; intro a45 w45 x hr hd hs
    revert s11; revert s10; revert s8; revert s5; revert s4; refine kp5 hs rfl ?_; intro s4 s5 s8 s10 s11
    clear s48
    have s71 := fa ?b44_3 a45 w45 71 (hd 3 71 rfl)
    replace e_w := e_w.trans x
    replace e_w8 := e_w8.trans x
    replace e_w28 := e_w28.trans x
    clear hd hs x
    refine exit_then ?_
    refine wp_cond_split (show _ = _ from s71) (fun hb => ?_) (fun hb => ?_)
    ·
     have hb : 20 + (cutN l).total > 65535 := by rw [← hP]; simpa using hb
     have hw9 := wrapR_44 hok hf h6 hb
     refine wp_seq ?_
     refine wp_reg 88 [[], []] [?b47_0, ?b47_1] mixed hr ?t47 ?o47 ?_
     case o47 =>
      refine oc0 (fun A W hx hf => ?_) ?_
      exact ok_assignv (OwnBA 0 w.heap.size 5 []) (fun _ => ownBA_nil)
      refine oc0 (fun A W hx hf => ?_) ?_
      exact ok_assignc
      exact OpsOk.nil
     case t47 => exact inferInstance
     clear hr; intro a48 w48 x hr hd hs
     clear s4 s5 s8 s10 s11 s71
     have s6 := fa ?b47_0 a48 w48 6 (hd 0 6 rfl)
     have s7 := fa ?b47_1 a48 w48 7 (hd 1 7 rfl)
     replace e_w := e_w.trans x
     replace e_w8 := e_w8.trans x
     clear e_w28
     clear hd hs x
     refine exit_then ?_
     refine wp_ret ?_
     refine then_ret ?_
     refine ret_tmp2 Try.results10 hr e_w ?_
     first | (rw [hw9]; exact ⟨_, _, rfl, OwnB.mono s6.own hB, s7⟩) | (rw [hw9]; exact ⟨_, _, rfl, OwnB.cast (OwnB.mono s6.own hB) (by rw [hpr]; simp), s7⟩)
    ·
     have hb : ¬ 20 + (cutN l).total > 65535 := by rw [← hP]; simpa using hb
     have hw9 := wrapR_4 hok hf h6 hb
     have hrt := wrap4_right (l := l) (n := (cutN l).total) h6 hf (by omega)
     have hpl9 := fourPut_len (H := four20 (wrapT l Sa Da) (cutN l).total) ⟨hA, hD⟩
     have hpr : linkPutR { cutL l with type := 2048 } = (linkPut (typedL (cutL l) false), 0) := put_typed hok false
     refine wp_skip ?_
     refine exit_then ?_
     refine wp_seq ?_
     refine wp_reg 88 [[(10, none)], [(73, some 0)], [(74, some 1)], [(11, none)], [(4, none)], [(5, none)], [(75, some 2), (76, some 3), (77, some 4), (78, some 5)], [(79, some 6)], [(80, some 7)], [(72, some 8)], [(72, some 8)], [(81, some 9)], [(82, some 10)]] [?b49_0, ?b49_1, ?b49_2, ?b49_3, ?b49_4, ?b49_5, ?b49_6, ?b49_7, ?b49_7, ?b49_9, ?b49_10, ?b49_9, ?b49_10] mixed hr ?t49 ?o49 ?_
     case o49 =>
      refine oc0 (fun A W hx hf => ?_) ?_
      exact ok_movE (a0 := a45) (r0 hf)
      refine oc0 (fun A W hx hf => ?_) ?_
      exact ok_len_bs Try.underlying22 (p2 s10 e_w hx (q0 ?b49_0 A W 73 hf))
      refine oc0 (fun A W hx hf => ?_) ?_
      exact ok_addI (ec A (.int .i64 20)) (q0 ?b49_1 A W 74 hf) (by omega)
      refine oc0 (fun A W hx hf => ?_) ?_
      exact ok_movE (a0 := a45) (r0 hf)
      refine oc0 (fun A W hx hf => ?_) ?_
      exact ok_loadAggS 2 Try.underlying25 rfl size25 (o2 s4 e_w8 hx (r0 hf)) rfl
      refine oc0 (fun A W hx hf => ?_) ?_
      exact ok_loadAggS 2 Try.underlying25 rfl size25 (o2 s5 e_w8 hx (r0 hf)) rfl
      refine oc0 (fun A W hx hf => ?_) ?_
      exact ok_buildS [(0, (.const (.int .i64 20))), (1, (.tmp 75)), (5, (.const (.bool true))), (6, (.const (.int .i64 64))), (7, (.tmp 76)), (8, (.tmp 77)), (9, (.tmp 78))] [(0, _), (1, _), (5, _), (6, _), (7, _), (8, _), (9, _)] lay64 rfl (PartsC.one (ec A (.int .i64 20)) rfl (PartsC.one (q0 ?b49_2 A W 75 hf) rfl (PartsC.one (ec A (.bool true)) rfl (PartsC.one (ec A (.int .i64 64)) rfl (PartsC.one (p2 s11 e_w28 hx (q1 ?b49_3 A W 76 hf)) rfl (PartsC.agg (q2 ?b49_4 A W 77 hf) (PartsC.agg (q3 ?b49_5 A W 78 hf) (PartsC.nil)))))))) (by simp [hA, hD])
      refine oc0 (fun A W hx hf => ?_) ?_
      exact ok_call1 body23 (c_four_Put (Is.conv (q0 ?b49_6 A W 79 hf) (show _ = FourV (four20 (wrapT l Sa Da) (cutN l).total) from by rw [← hP]; simp [FourV, fourS, four20, wrapT, adrCells, setAll])) (by exact ⟨hA, hD⟩) hx.size)
      refine oc0 (fun A W hx hf => ?_) ?_
      exact ok_move (q0 ?b49_7 A W 80 hf)
      refine oc0 (fun A W hx hf => ?_) ?_
      exact ok_ext0 (q0 ?b49_7 A W 72 hf)
      refine oc0 (fun A W hx hf => ?_) ?_
      exact ok_ext1 (q0 ?b49_7 A W 72 hf)
      refine oc0 (fun A W hx hf => ?_) ?_
      exact ok_assign (q0 ?b49_9 A W 81 hf)
      refine oc0 (fun A W hx hf => ?_) ?_
      exact ok_assign (q0 ?b49_10 A W 82 hf)
      exact OpsOk.nil
     case t49 => exact inferInstance
     clear hr; intro a50 w50 x hr hd hs
     have z_w_w45 := e_w.size
     have z_w8_w45 := e_w8.size
     have z_w28_w45 := e_w28.size
     have l50_4 := PxS.lt (later e_w8 s4)
     have l50_5 := PxS.lt (later e_w8 s5)
     have l50_8 := PxS.lt (later e_w8 s8)
     have l50_gL := OwnRA.lt (later e_w8 gL)
     revert s10; revert s8; refine kp2 hs rfl ?_; intro s8 s10
     clear s4 s5 s11 s71
     have s14 := fa ?b49_9 a50 w50 14 (hd 11 14 rfl)
     obtain ⟨g50_14, q50_14⟩ := OwnB.at s14; clear s14; have n50_14 := OwnBA.lt q50_14
     replace q50_14 := OwnBA.mono q50_14 e_w.size
     have s14 := q50_14; clear q50_14
     replace e_w := e_w.trans x
     replace e_w8 := e_w8.trans x
     clear e_w28
     clear hd hs x
     replace s14 := OwnBA.cast s14 (show _ = fourPut (four20 (wrapT l Sa Da) (cutN l).total) from by unfold fourPutR; rw [if_pos hrt])
     refine exit_then ?_
     refine wp_seq ?_
     refine wp_reg 88 [[(8, none)], [(14, none)], [(10, none)], [(84, some 1), (85, some 2)], [(83, some 0), (86, some 3)], [(87, some 4)], []] [?b51_0, ?b51_1, ?b51_2, ?b51_3, ?b51_4, ?b51_4, ?b51_6] mixed hr ?t51 ?o51 ?_
     case o51 =>
      refine oc0 (fun A W hx hf => ?_) ?_
      exact ok_loadAggS 5 Try.underlying41 rfl size41 (o2 s8 e_w8 hx (r0 hf)) rfl
      refine oc0 (fun A W hx hf => ?_) ?_
      exact ok_movE (a0 := a50) (r0 hf)
      refine oc0 (fun A W hx hf => ?_) ?_
      exact ok_movE (a0 := a50) (r0 hf)
      refine oc0 (fun A W hx hf => ?_) ?_
      exact ok_buildBss [(.tmp 84), (.tmp 85)] [_, _] Try.underlying88 size22 zero22 rfl rfl (by decide) (PartsOk.cons (OwnBA.bs (p1 s14 hx (q0 ?b51_1 A W 84 hf))) (PartsOk.cons (p2 s10 e_w hx (q1 ?b51_2 A W 85 hf)) (PartsOk.nil)))
      refine oc0 (fun A W hx hf => ?_) ?_
      exact ok_call3 body22 (c_join (LinkV.of (show Is (LnkA (cutL l) svl) _ _ from (q0 ?b51_0 A W 83 hf)) (OwnRA.rw (later (e_w8.trans hx) gL))) (show Is (.int .i64 2048) (A.eval (.const (.int .i64 2048))) _ from rfl) (q1 ?b51_3 A W 86 hf) (by exact cutL_ok _) (by simp only [List.flatten_cons, List.flatten_nil, List.append_nil, List.length_append, hpl9]; omega) hx.size)
      refine oc0 (fun A W hx hf => ?_) ?_
      exact ok_assign (q0 ?b51_4 A W 87 hf)
      refine oc0 (fun A W hx hf => ?_) ?_
      exact ok_assignc
      exact OpsOk.nil
     case t51 => exact inferInstance
     clear hr; intro a52 w52 x hr hd hs
     have z_w_w50 := e_w.size
     have z_w8_w50 := e_w8.size
     have l52_8 := PxS.lt (later e_w8 s8)
     have l52_14 := OwnBA.lt s14
     have l52_gL := OwnRA.lt (later e_w8 gL)
     clear s8 s10 s14
     have s6 := fa ?b51_4 a52 w52 6 (hd 5 6 rfl)
     have s7 := fa ?b51_6 a52 w52 7 (hd 6 7 rfl)
     obtain ⟨g52_6, q52_6⟩ := OwnB.at s6; clear s6; have n52_6 := OwnBA.lt q52_6
     replace q52_6 := OwnBA.mono q52_6 e_w.size
     have s6 := q52_6; clear q52_6
     replace e_w := e_w.trans x
     replace e_w8 := e_w8.trans x
     clear hd hs x
     refine exit_then ?_
     refine wp_ret ?_
     refine ret_tmp2 Try.results10 hr e_w ?_
     first | (rw [hw9]; exact ⟨_, _, rfl, OwnB.mono s6.own hB, s7⟩) | (rw [hw9]; exact ⟨_, _, rfl, OwnB.cast (OwnB.mono s6.own hB) (by rw [hpr]; simp), s7⟩)

set_option maxHeartbeats 1000000 in
theorem c_tUnwrap {x0 : Value} {w : World} {l : List UInt8} {B : Nat} (h0 : (Bs l) x0 w) (hn9 : l.length ≤ 900000) (hB : B ≤ w.heap.size) :
    Calls Try.prog 13 #[x0] w (Ret (Tup2 (OwnB B 5 (unwR l).1) (Is (.int .i64 (if (unwR l).2 then 0 else 3)))) w) := by
 have hlen := Bs.len_le h0
 refine enter Try.func13 rfl Try.ntmps13 (k := 1) rfl (by decide) (fun a0 hr hargs => ?_)
 have s0 := sarg h0 (hargs 0 (by decide))
 clear hargs
 refine wp_seq ?_
 refine wp_reg 44 [[], []] [?b1_0, ?b1_1] mixed hr ?t1 ?o1 ?_
 case o1 =>
  refine oc0 (fun A W hx hf => ?_) ?_
  exact ok_assignv (OwnBA 0 w.heap.size 5 []) (fun _ => ownBA_nil)
  refine oc0 (fun A W hx hf => ?_) ?_
  exact ok_assignc
  exact OpsOk.nil
 case t1 => exact inferInstance
 clear hr; intro a2 w2 x hr hd hs
 revert s0; refine kp1 hs rfl ?_; intro s0
 have e_w := x
 clear hd hs x
 refine exit_then ?_
 refine wp_seq ?_
 refine wp_reg_pre (l := [_, _, _, _, _, _]) (rest := [_, _, _, _, _]) 44 [[(0, none)], [(11, some 0)], [(12, some 1)], [(10, some 2)], [(10, some 2)], [(10, some 2)]] [?b3_0, ?b3_1, ?b3_1, ?b3_3, ?b3_4, ?b3_5] hr ?t3 ?o3 ?_
 case o3 =>
  refine oc0 (fun A W hx hf => ?_) ?_
  exact ok_movE (a0 := a2) (r0 hf)
  refine oc0 (fun A W hx hf => ?_) ?_
  exact ok_call1 body19 (c_tcut ⟨(p2 s0 e_w hx (q0 ?b3_0 A W 11 hf)), (sarg s0 (show _ = _ from (q0 ?b3_0 A W 11 hf)))⟩ hx.size)
  refine oc0 (fun A W hx hf => ?_) ?_
  exact ok_move (q0 ?b3_1 A W 12 hf)
  refine oc0 (fun A W hx hf => ?_) ?_
  exact ok_ext3_0 (q0 ?b3_1 A W 10 hf)
  refine oc0 (fun A W hx hf => ?_) ?_
  exact ok_ext3_1 (q0 ?b3_1 A W 10 hf)
  refine oc0 (fun A W hx hf => ?_) ?_
  exact ok_ext3_2 (q0 ?b3_1 A W 10 hf)
  exact OpsOk.nil
 case t3 => exact inferInstance
 clear hr; intro a4 w4 x hr hd hs
 clear s0
 have s13 := fa ?b3_3 a4 w4 13 (hd 3 13 rfl)
 have s14 := fa ?b3_4 a4 w4 14 (hd 4 14 rfl)
 have s15 := AtW.base (fa ?b3_5 a4 w4 15 (hd 5 15 rfl))
 obtain ⟨svl, s13, gL⟩ := LinkO.open s13; obtain ⟨g4_13, gL⟩ := OwnR.at gL; have n4_13 := OwnRA.lt gL
 replace gL := OwnRA.mono gL e_w.size
 replace e_w := e_w.trans x
 clear hd hs x
 have l5_gL := OwnRA.lt gL
 refine wl_op hr (ok_allocS (lnkS link0 (.slice none 0 0)) [6, 6, 1, 1, 1] zerov41 (by rfl) (by rfl) (Nat.le_refl _)) inferInstance ?_; clear hr; intro a5 w5 x hr hd hs
 revert s13; revert s15; revert s14; refine kp3 hs rfl ?_; intro s14 s15 s13
 have s4 := hd 4 rfl (by decide)
 obtain ⟨g5_4, q5_4⟩ := PxN.at s4; clear s4; have n5_4 := PxS.lt q5_4
 replace q5_4 := PxS.mono q5_4 e_w.size
 have s4 := q5_4; clear q5_4
 replace e_w := e_w.trans x
 have e_w4 := x
 clear hd hs x
 have l6_4 := PxS.lt s4
 have l6_gL := OwnRA.lt (later e_w4 gL)
 refine wl_op hr (ok_allocS (netS net0) [1, 1, 1, 1, 1] zerov54 (by rfl) (by rfl) (Nat.le_refl _)) inferInstance ?_; clear hr; intro a6 w6 x hr hd hs
 revert s4; revert s13; revert s15; revert s14; refine kp4 hs rfl ?_; intro s14 s15 s13 s4
 have s5 := hd 5 rfl (by decide)
 obtain ⟨g6_5, q6_5⟩ := PxN.at s5; clear s5; have n6_5 := PxS.lt q6_5
 replace q6_5 := PxS.mono q6_5 e_w.size
 have s5 := q6_5; clear q6_5
 replace e_w := e_w.trans x
 replace e_w4 := e_w4.trans x
 have e_w5 := x
 clear hd hs x
 have z7 := PxS.lt (later e_w5 s4)
 have l7 := (show (g5_4 = 0 ∨ w.heap.size < g5_4) ∧ True from ⟨by omega, trivial⟩)
 have l7_5 := PxS.lt s5
 have l7_gL := OwnRA.lt (later e_w4 gL)
 refine wl_storeSm (lnkS (cutL l) svl) hr size41 (later e_w5 s4) (later e_w4 s13) (by exact lnkS_lens (cutL_ok _)) (by exact lnk_one (rw_one (OwnRA.rw (later e_w4 gL)))) rfl ?_; clear hr; intro a7 w7 hc hu hr hs
 have hb : Below w.heap.size w6 w7 := hc.below e_w.size l7.1
 revert s5; revert s4; revert s15; revert s14; refine kp4 hs rfl ?_; intro s14 s15 s4 s5
 clear s13
 replace s4 := hu _ _ _ (later e_w5 s4)
 try simp only [List.set_cons_zero, List.set_cons_succ] at s4
 replace s5 := PxS.other s5 hc (by omega)
 replace gL := OwnRA.other (later e_w4 gL) hc (by omega)
 replace e_w := e_w.below (Nat.le_refl _) hb
 clear e_w4
 clear e_w5
 replace s14 := anyw (w2 := w7) s14
 clear hu hs hc hb
 have z8 := PxS.lt s5
 have l8 := (show (g6_5 = 0 ∨ w.heap.size < g6_5) ∧ True from ⟨by omega, trivial⟩)
 have l8_4 := PxS.lt s4
 have l8_gL := OwnRA.lt gL
 refine wl_storeSm (netS (cutN l)) hr size54 s5 s14 (by rfl) (by exact net_one) rfl ?_; clear hr; intro a8 w8 hc hu hr hs
 have hb : Below w.heap.size w7 w8 := hc.below e_w.size l8.1
 revert s5; revert s4; revert s15; refine kp3 hs rfl ?_; intro s15 s4 s5
 clear s14
 replace s4 := PxS.other s4 hc (by omega)
 replace s5 := hu _ _ _ s5
 try simp only [List.set_cons_zero, List.set_cons_succ] at s5
 replace gL := OwnRA.other gL hc (by omega)
 replace e_w := e_w.below (Nat.le_refl _) hb
 clear hu hs hc hb
 refine wl_op hr (ok_assign (show AtW w _ _ _ from s15)) inferInstance ?_; clear hr; intro a9 w9 x hr hd hs
 revert s5; revert s4; refine kp2 hs rfl ?_; intro s4 s5
 clear s15
 have s6 := AtW.base (hd 6 rfl (by decide))
 replace e_w := e_w.trans x
 have e_w8 := x
 clear hd hs x
 refine wpList_nil ?_
 refine exit_then ?_
 refine wp_seq ?_
 refine wp_seq ?_
 refine wp_reg 44 [[(5, none)], [(16, some 0)], [(17, some 1)], [(18, some 2)], [(5, none), (19, some 3)], [(20, some 4), (19, some 3)], [(19, some 3), (21, some 5)]] [?b10_0, ?b10_1, ?b10_2, ?b10_2, ?b10_4, ?b10_5, ?b10_6] mixed hr ?t10 ?o10 ?_
 case o10 =>
  refine oc0 (fun A W hx hf => ?_) ?_
  exact ok_fieldS 4 Try.underlying54 (k := 4) rfl size4 rfl (o2 s5 e_w8 hx (r0 hf)) rfl
  refine oc0 (fun A W hx hf => ?_) ?_
  exact ok_loadS Try.underlying4 rfl (q0 ?b10_0 A W 16 hf) rfl
  refine oc0 (fun A W hx hf => ?_) ?_
  exact ok_not (q0 ?b10_1 A W 17 hf)
  refine oc0 (fun A W hx hf => ?_) ?_
  exact ok_move (q0 ?b10_2 A W 18 hf)
  refine ocg 19 ?_ (fun A W hx hf => ?_) ?_
  rfl
  exact gd_f (q1 ?b10_2 A W 19 hf) (fun hc => ok_fieldS 3 Try.underlying54 (k := 3) rfl size4 rfl (o2 s5 e_w8 hx (r0 hf)) rfl)
  refine ocg 19 ?_ (fun A W hx hf => ?_) ?_
  rfl
  exact gd_f (q1 ?b10_2 A W 19 hf) (fun hc => ok_loadS Try.underlying4 rfl (G.get (q0 ?b10_4 A W 20 hf) hc) rfl)
  refine oc0 (fun A W hx hf => ?_) ?_
  exact ok_or (q0 ?b10_2 A W 19 hf) (q1 ?b10_5 A W 21 hf)
  exact OpsOk.nil
 case t10 => exact inferInstance
 clear hr; intro a11 w11 x hr hd hs
 revert s6; revert s5; revert s4; refine kp3 hs rfl ?_; intro s4 s5 s6
 have s22 := fa ?b10_6 a11 w11 22 (hd 6 22 rfl)
 replace e_w := e_w.trans x
 replace e_w8 := e_w8.trans x
 clear hd hs x
 refine exit_then ?_
 refine wp_cond_split (show _ = _ from s22) (fun hok => ?_) (fun hok => ?_)
 ·
  have hw9 := unwR_no hok
  refine wp_seq ?_
  refine wp_reg 44 [[], []] [?b13_0, ?b13_1] mixed hr ?t13 ?o13 ?_
  case o13 =>
   refine oc0 (fun A W hx hf => ?_) ?_
   exact ok_assignv (OwnBA 0 w.heap.size 5 []) (fun _ => ownBA_nil)
   refine oc0 (fun A W hx hf => ?_) ?_
   exact ok_assignc
   exact OpsOk.nil
  case t13 => exact inferInstance
  clear hr; intro a14 w14 x hr hd hs
  clear s4 s5 s6 s22
  have s2 := fa ?b13_0 a14 w14 2 (hd 0 2 rfl)
  have s3 := fa ?b13_1 a14 w14 3 (hd 1 3 rfl)
  replace e_w := e_w.trans x
  replace e_w8 := e_w8.trans x
  clear hd hs x
  refine exit_then ?_
  refine wp_ret ?_
  refine then_ret ?_
  refine ret_tmp2 Try.results13 hr e_w ?_
  first | (rw [hw9]; exact ⟨_, _, rfl, OwnB.mono s2.own hB, s3⟩) | (rw [hw9]; exact ⟨_, _, rfl, OwnB.cast (OwnB.mono s2.own hB) (by rw [hti, hpr]; simp), s3⟩)
 ·
  have hof := hok
  have hok : (cutN l).ok = true := by cases h9 : (cutN l).ok with | true => rfl | false => rw [h9] at hof; simp at hof
  obtain ⟨hP, hH20, hHT⟩ := cutP_len hok
  have hPn : (cutP l).length ≤ l.length := by have := cutN_ok hok; unfold cutP; rw [if_pos this]; simp [subl]; omega
  refine wp_skip ?_
  refine exit_then ?_
  refine wp_seq ?_
  refine wp_reg 44 [[(5, none)], [(23, some 0)], [(24, some 1)], [(25, some 2)]] [?b15_0, ?b15_1, ?b15_2, ?b15_2] mixed hr ?t15 ?o15 ?_
  case o15 =>
   refine oc0 (fun A W hx hf => ?_) ?_
   exact ok_fieldS 2 Try.underlying54 (k := 2) rfl size3 rfl (o2 s5 e_w8 hx (r0 hf)) rfl
   refine oc0 (fun A W hx hf => ?_) ?_
   exact ok_loadS Try.underlying3 rfl (q0 ?b15_0 A W 23 hf) rfl
   refine oc0 (fun A W hx hf => ?_) ?_
   exact ok_call1 body28 (c_inner (q0 ?b15_1 A W 24 hf))
   refine oc0 (fun A W hx hf => ?_) ?_
   exact ok_assign (q0 ?b15_2 A W 25 hf)
   exact OpsOk.nil
  case t15 => exact inferInstance
  clear hr; intro a16 w16 x hr hd hs
  revert s6; revert s5; revert s4; refine kp3 hs rfl ?_; intro s4 s5 s6
  clear s22
  have s7 := fa ?b15_2 a16 w16 7 (hd 3 7 rfl)
  replace e_w := e_w.trans x
  replace e_w8 := e_w8.trans x
  clear hd hs x
  refine exit_then ?_
  refine wp_seq ?_
  refine wp_reg 44 [[(6, none)], [(5, none)], [(27, some 1)], [(26, some 0), (28, some 2)], [(29, some 3)]] [?b17_0, ?b17_1, ?b17_2, ?b17_3, ?b17_3] mixed hr ?t17 ?o17 ?_
  case o17 =>
   refine oc0 (fun A W hx hf => ?_) ?_
   exact ok_movE (a0 := a16) (r0 hf)
   refine oc0 (fun A W hx hf => ?_) ?_
   exact ok_fieldS 0 Try.underlying54 (k := 0) rfl size3 rfl (o2 s5 e_w8 hx (r0 hf)) rfl
   refine oc0 (fun A W hx hf => ?_) ?_
   exact ok_loadS Try.underlying3 rfl (q0 ?b17_1 A W 27 hf) rfl
   refine oc0 (fun A W hx hf => ?_) ?_
   exact okW_slice_lo ((cutN l).head.toNat) Try.underlying22 size5 (sarg s6 (show _ = _ from (q0 ?b17_0 A W 26 hf))) (Is.int (q1 ?b17_2 A W 28 hf) (by show (cutN l).head = _; omega)) (by omega)
   refine oc0 (fun A W hx hf => ?_) ?_
   exact ok_assign (q0 ?b17_3 A W 29 hf)
   exact OpsOk.nil
  case t17 => exact inferInstance
  clear hr; intro a18 w18 x hr hd hs
  revert s7; revert s4; refine kp2 hs rfl ?_; intro s4 s7
  clear s5 s6
  have s8 := AtW.base (fa ?b17_3 a18 w18 8 (hd 4 8 rfl))
  replace e_w := e_w.trans x
  replace e_w8 := e_w8.trans x
  have e_w16 := x
  clear hd hs x
  refine exit_then ?_
  refine wp_seq ?_
  refine wp_reg_pre (l := [_, _, _, _]) (rest := [_]) 44 [[(7, none)], [(8, none)], [(30, some 0), (31, some 1)], []] [?b19_0, ?b19_1, ?b19_2, ?b19_3] hr ?t19 ?o19 ?_
  case o19 =>
   refine oc0 (fun A W hx hf => ?_) ?_
   exact ok_movE (a0 := a18) (r0 hf)
   refine oc0 (fun A W hx hf => ?_) ?_
   exact ok_movE (a0 := a18) (r0 hf)
   refine oc0 (fun A W hx hf => ?_) ?_
   exact ok_call2 body29 (c_tread (p2 s7 e_w16 hx (q0 ?b19_0 A W 30 hf)) (p2 s8 e_w hx (q1 ?b19_1 A W 31 hf)))
   refine oc0 (fun A W hx hf => ?_) ?_
   exact ok_allocS (netS net0) [1, 1, 1, 1, 1] zerov54 (by rfl) (by rfl) hx.size
   exact OpsOk.nil
  case t19 => exact inferInstance
  clear hr; intro a20 w20 x hr hd hs
  have z_w_w18 := e_w.size
  have z_w8_w18 := e_w8.size
  have z_w16_w18 := e_w16.size
  have l20_4 := PxS.lt (later e_w8 s4)
  have l20_gL := OwnRA.lt (later e_w8 gL)
  revert s8; revert s7; revert s4; refine kp3 hs rfl ?_; intro s4 s7 s8
  have s32 := fa ?b19_2 a20 w20 32 (hd 2 32 rfl)
  have s9 := fa ?b19_3 a20 w20 9 (hd 3 9 rfl)
  obtain ⟨g20_9, q20_9⟩ := PxN.at s9; clear s9; have n20_9 := PxS.lt q20_9
  replace q20_9 := PxS.mono q20_9 e_w.size
  have s9 := q20_9; clear q20_9
  replace e_w := e_w.trans x
  replace e_w8 := e_w8.trans x
  replace e_w16 := e_w16.trans x
  clear hd hs x
  have z21 := PxS.lt s9
  have l21 := (show (g20_9 = 0 ∨ w.heap.size < g20_9) ∧ True from ⟨by omega, trivial⟩)
  have l21_4 := PxS.lt (later e_w8 s4)
  have l21_gL := OwnRA.lt (later e_w8 gL)
  refine wl_storeSm (netS (netRead (innerI (cutN l).proto) ((cutP l).drop (cutN l).head.toNat))) hr size54 s9 s32 (by rfl) (by exact net_one) rfl ?_; clear hr; intro a21 w21 hc hu hr hs
  have hb : Below w.heap.size w20 w21 := hc.below e_w.size l21.1
  revert s9; revert s8; revert s7; revert s4; refine kp4 hs rfl ?_; intro s4 s7 s8 s9
  clear s32
  replace s4 := PxS.other (later e_w8 s4) hc (by omega)
  replace s9 := hu _ _ _ s9
  try simp only [List.set_cons_zero, List.set_cons_succ] at s9
  replace gL := OwnRA.other (later e_w8 gL) hc (by omega)
  replace e_w := e_w.below (Nat.le_refl _) hb
  clear e_w8
  clear e_w16
  replace s7 := anyw (w2 := w21) s7
  clear hu hs hc hb
  refine wpList_nil ?_
  refine exit_then ?_
  refine wp_seq ?_
  refine wp_seq ?_
  refine wp_reg 44 [[(9, none)], [(33, some 0)], [(34, some 1)]] [?b22_0, ?b22_1, ?b22_2] mixed hr ?t22 ?o22 ?_
  case o22 =>
   refine oc0 (fun A W hx hf => ?_) ?_
   exact ok_fieldS 4 Try.underlying54 (k := 4) rfl size4 rfl (o1 s9 hx (r0 hf)) rfl
   refine oc0 (fun A W hx hf => ?_) ?_
   exact ok_loadS Try.underlying4 rfl (q0 ?b22_0 A W 33 hf) rfl
   refine oc0 (fun A W hx hf => ?_) ?_
   exact ok_not (q0 ?b22_1 A W 34 hf)
   exact OpsOk.nil
  case t22 => exact inferInstance
  clear hr; intro a23 w23 x hr hd hs
  revert s7; revert s9; revert s4; revert s8; refine kp4 hs rfl ?_; intro s8 s4 s9 s7
  have s35 := fa ?b22_2 a23 w23 35 (hd 2 35 rfl)
  replace e_w := e_w.trans x
  have e_w21 := x
  clear hd hs x
  refine exit_then ?_
  refine wp_cond_split (show _ = _ from s35) (fun hM => ?_) (fun hM => ?_)
  ·
   have hM : (netRead (innerI (cutN l).proto) ((cutP l).drop (cutN l).head.toNat)).ok = false := by simpa using hM
   have hw9 := unwR_no2 hof hM
   refine wp_seq ?_
   refine wp_reg 44 [[], []] [?b25_0, ?b25_1] mixed hr ?t25 ?o25 ?_
   case o25 =>
    refine oc0 (fun A W hx hf => ?_) ?_
    exact ok_assignv (OwnBA 0 w.heap.size 5 []) (fun _ => ownBA_nil)
    refine oc0 (fun A W hx hf => ?_) ?_
    exact ok_assignc
    exact OpsOk.nil
   case t25 => exact inferInstance
   clear hr; intro a26 w26 x hr hd hs
   clear s8 s4 s9 s7 s35
   have s2 := fa ?b25_0 a26 w26 2 (hd 0 2 rfl)
   have s3 := fa ?b25_1 a26 w26 3 (hd 1 3 rfl)
   replace e_w := e_w.trans x
   replace e_w21 := e_w21.trans x
   clear hd hs x
   refine exit_then ?_
   refine wp_ret ?_
   refine then_ret ?_
   refine ret_tmp2 Try.results13 hr e_w ?_
   first | (rw [hw9]; exact ⟨_, _, rfl, OwnB.mono s2.own hB, s3⟩) | (rw [hw9]; exact ⟨_, _, rfl, OwnB.cast (OwnB.mono s2.own hB) (by rw [hti, hpr]; simp), s3⟩)
  ·
   have hM : (netRead (innerI (cutN l).proto) ((cutP l).drop (cutN l).head.toNat)).ok = true := by simpa using hM
   have hw9 := unwR_yes hof hM
   have hpp := inner_ok hM
   have hpr := put_typed hok (decide ((cutN l).proto = 41))
   have hti := typed_inner (L := cutL l) hpp
   have hMb := net_tot hM
   refine wp_skip ?_
   refine exit_then ?_
   refine wp_seq ?_
   refine wp_reg 44 [[(4, none)], [(7, none)], [(8, none)], [(9, none)], [(39, some 3)], [(38, some 2), (40, some 4)], [(41, some 5)], [(36, some 0), (37, some 1), (42, some 6)], [(43, some 7)], []] [?b27_0, ?b27_1, ?b27_2, ?b27_3, ?b27_4, ?b27_5, ?b27_6, ?b27_7, ?b27_7, ?b27_9] mixed hr ?t27 ?o27 ?_
   case o27 =>
    refine oc0 (fun A W hx hf => ?_) ?_
    exact ok_loadAggS 5 Try.underlying41 rfl size41 (o2 s4 e_w21 hx (r0 hf)) rfl
    refine oc0 (fun A W hx hf => ?_) ?_
    exact ok_movE (a0 := a23) (r0 hf)
    refine oc0 (fun A W hx hf => ?_) ?_
    exact ok_movE (a0 := a23) (r0 hf)
    refine oc0 (fun A W hx hf => ?_) ?_
    exact ok_fieldS 1 Try.underlying54 (k := 1) rfl size3 rfl (o2 s9 e_w21 hx (r0 hf)) rfl
    refine oc0 (fun A W hx hf => ?_) ?_
    exact ok_loadS Try.underlying3 rfl (q0 ?b27_3 A W 39 hf) rfl
    refine oc0 (fun A W hx hf => ?_) ?_
    exact okW_slice_hi ((netRead (innerI (cutN l).proto) ((cutP l).drop (cutN l).head.toNat)).total.toNat) Try.underlying22 size5 (sarg s8 (show _ = _ from (q0 ?b27_2 A W 38 hf))) (Is.int (q1 ?b27_4 A W 40 hf) (by show (netRead (innerI (cutN l).proto) ((cutP l).drop (cutN l).head.toNat)).total = _; omega)) (by omega)
    refine oc0 (fun A W hx hf => ?_) ?_
    exact ok_buildBss [(.tmp 41)] [_] Try.underlying88 size22 zero22 rfl rfl (by decide) (PartsOk.cons (AtW.now (q0 ?b27_5 A W 41 hf) (e_w.trans hx)) (PartsOk.nil))
    refine oc0 (fun A W hx hf => ?_) ?_
    exact ok_call3 body22 (c_join (LinkV.of (show Is (LnkA (cutL l) svl) _ _ from (q0 ?b27_0 A W 36 hf)) (OwnRA.rw (later (e_w21.trans hx) gL))) (p2 s7 e_w21 hx (q1 ?b27_1 A W 37 hf)) (q2 ?b27_6 A W 42 hf) (by exact cutL_ok _) (by simp; omega) hx.size)
    refine oc0 (fun A W hx hf => ?_) ?_
    exact ok_assign (q0 ?b27_7 A W 43 hf)
    refine oc0 (fun A W hx hf => ?_) ?_
    exact ok_assignc
    exact OpsOk.nil
   case t27 => exact inferInstance
   clear hr; intro a28 w28 x hr hd hs
   have z_w_w23 := e_w.size
   have z_w21_w23 := e_w21.size
   have l28_4 := PxS.lt (later e_w21 s4)
   have l28_9 := PxS.lt (later e_w21 s9)
   have l28_gL := OwnRA.lt (later e_w21 gL)
   clear s8 s4 s9 s7 s35
   have s2 := fa ?b27_7 a28 w28 2 (hd 8 2 rfl)
   have s3 := fa ?b27_9 a28 w28 3 (hd 9 3 rfl)
   obtain ⟨g28_2, q28_2⟩ := OwnB.at s2; clear s2; have n28_2 := OwnBA.lt q28_2
   replace q28_2 := OwnBA.mono q28_2 e_w.size
   have s2 := q28_2; clear q28_2
   replace e_w := e_w.trans x
   replace e_w21 := e_w21.trans x
   clear hd hs x
   refine exit_then ?_
   refine wp_ret ?_
   refine ret_tmp2 Try.results13 hr e_w ?_
   first | (rw [hw9]; exact ⟨_, _, rfl, OwnB.mono s2.own hB, s3⟩) | (rw [hw9]; exact ⟨_, _, rfl, OwnB.cast (OwnB.mono s2.own hB) (by rw [hti, hpr]; simp), s3⟩)

end Go.Proofs.Ytnlmppannjebfaa
