import Derived.Test.YtdbjpfjnambenaaC07a
import Derived.Test.YtdbjpfjnambenaaC06a
namespace Go.Proofs.Ytdbjpfjnambenaa
open Go.RowKit
set_option linter.unusedVariables false
set_option maxRecDepth 4000
def D_c_lPut_0 : List Tmp := [2, 3, 4, 6, 31, 32, 33, 34, 35, 36, 37, 38, 39, 40, 41, 42, 43, 44, 45, 46, 47, 48, 49, 50, 51, 52, 53, 54, 55, 56, 57]
theorem c_lPut {x0 : Value} {w : World} {L : LinkL} {B : Nat} (h0 : (LinkV L) x0 w) (hL : LinkOk L) (hB : B ≤ w.heap.size) :
    Calls Try.prog 13 #[x0] w (Ret (Tup2 (OwnB B 5 (linkPutR L).1) (Is (.int .i64 (linkPutR L).2))) w) := by
 obtain ⟨v, eh0, hT, hvh0⟩ := h0
 replace h0 : Is (LnkA L v) x0 w := eh0
 have hd6 := hL.1
 have hs6 := hL.2
 have htl : L.tags.length ≤ 9223372036854775807 := Rw.len_le hT
 refine enter Try.func13 rfl Try.ntmps13 (k := 1) rfl (by decide) (fun a0 hr hargs => ?_)
 have s0 := sarg h0 (hargs 0 (by decide))
 clear hargs
 refine wp_seq ?_
 refine wp_reg 64 [[(0, none)], [], []] [?b1_0, ?b1_1, ?b1_2] mixed (by kernel_rfl) (by kernel_rfl) hr ?t1 ?o1 ?_
 case o1 =>
  refine oc0 (fun A W hx hf => ?_) ?_
  exact ok_boxS (lnkS L v) [6, 6, 1, 1, 1] (o1 s0 hx (r0 hf)) (by exact lnkS_lens hL) hx.size
  refine oc0 (fun A W hx hf => ?_) ?_
  exact ok_assignv (OwnBA 0 w.heap.size 5 []) (fun _ => ownBA_nil)
  refine oc0 (fun A W hx hf => ?_) ?_
  exact ok_assignc
  exact OpsOk.nil
 case t1 => exact inferInstance
 clear hr; intro a2 w2 x hr hd hs
 clear s0
 have s1 := fa ?b1_0 a2 w2 1 (hd 0 1 rfl)
 obtain ⟨g2_1, q2_1⟩ := PxN.at s1; clear s1; have n2_1 := PxS.lt q2_1
 have s1 := q2_1; clear q2_1
 have e_w := x
 clear hd hs x
 refine exit_then ?_
 refine wp_seq ?_
 refine wp_seq ?_
 refine wp_reg 64 [[(1, none)], [(7, some 0)], [(8, some 1)], [(9, some 2)], [(10, some 3)], [(1, none), (11, some 4)], [(12, some 5), (11, some 4)], [(13, some 6), (11, some 4)], [(14, some 7), (11, some 4)], [(11, some 4), (15, some 8)], [(16, some 9)], [(1, none), (17, some 10)], [(18, some 11), (17, some 10)], [(19, some 12), (17, some 10)], [(17, some 10), (20, some 13)]] [?b3_0, ?b3_1, ?b3_2, ?b3_3, ?b3_3, ?b3_5, ?b3_6, ?b3_7, ?b3_8, ?b3_9, ?b3_9, ?b3_11, ?b3_12, ?b3_13, ?b3_14] mixed (by kernel_rfl) (by kernel_rfl) hr ?t3 ?o3 ?_
 case o3 =>
  refine oc0 (fun A W hx hf => ?_) ?_
  exact ok_fieldS 2 Try.underlying27 (k := 2) rfl size25 rfl (o1 s1 hx (r0 hf)) rfl
  refine oc0 (fun A W hx hf => ?_) ?_
  exact ok_isW (ok_loadS Try.underlying25 rfl (q0 ?b3_0 A W 7 hf) rfl) hT
  refine oc0 (fun A W hx hf => ?_) ?_
  exact ok_len_rw Try.underlying25 (AtW.now (q0 ?b3_1 A W 8 hf) (e_w.trans hx))
  refine oc0 (fun A W hx hf => ?_) ?_
  exact ok_gtr (q0 ?b3_2 A W 9 hf) (ec A (.int .i64 2))
  refine oc0 (fun A W hx hf => ?_) ?_
  exact ok_move (q0 ?b3_3 A W 10 hf)
  refine ocg 11 ?_ (fun A W hx hf => ?_) ?_
  rfl
  exact gd_f (q1 ?b3_3 A W 11 hf) (fun hc => ok_fieldS 3 Try.underlying27 (k := 3) rfl size3 rfl (o1 s1 hx (r0 hf)) rfl)
  refine ocg 11 ?_ (fun A W hx hf => ?_) ?_
  rfl
  exact gd_f (q1 ?b3_3 A W 11 hf) (fun hc => ok_loadS Try.underlying3 rfl (G.get (q0 ?b3_5 A W 12 hf) hc) rfl)
  refine ocg 11 ?_ (fun A W hx hf => ?_) ?_
  rfl
  exact gd_f (q1 ?b3_3 A W 11 hf) (fun hc => ok_call1 body22 (c_lin (G.get (q0 ?b3_6 A W 13 hf) hc)))
  refine ocg 11 ?_ (fun A W hx hf => ?_) ?_
  rfl
  exact gd_f (q1 ?b3_3 A W 11 hf) (fun hc => ok_not (G.get (q0 ?b3_7 A W 14 hf) hc))
  refine oc0 (fun A W hx hf => ?_) ?_
  exact ok_or (q0 ?b3_3 A W 11 hf) (q1 ?b3_8 A W 15 hf)
  refine oc0 (fun A W hx hf => ?_) ?_
  exact ok_move (q0 ?b3_9 A W 16 hf)
  refine ocg 17 ?_ (fun A W hx hf => ?_) ?_
  rfl
  exact gd_f (q1 ?b3_9 A W 17 hf) (fun hc => ok_fieldS 3 Try.underlying27 (k := 3) rfl size3 rfl (o1 s1 hx (r0 hf)) rfl)
  refine ocg 17 ?_ (fun A W hx hf => ?_) ?_
  rfl
  exact gd_f (q1 ?b3_9 A W 17 hf) (fun hc => ok_loadS Try.underlying3 rfl (G.get (q0 ?b3_11 A W 18 hf) hc) rfl)
  refine ocg 17 ?_ (fun A W hx hf => ?_) ?_
  rfl
  exact gd_f (q1 ?b3_9 A W 17 hf) (fun hc => ok_call1 body19 (c_ltag (G.get (q0 ?b3_12 A W 19 hf) hc)))
  refine oc0 (fun A W hx hf => ?_) ?_
  exact ok_or (q0 ?b3_9 A W 17 hf) (q1 ?b3_13 A W 20 hf)
  exact OpsOk.nil
 case t3 => exact inferInstance
 clear hr; intro a4 w4 x hr hd hs
 revert s1; refine kp1 hs rfl ?_; intro s1
 have s21 := fa ?b3_14 a4 w4 21 (hd 14 21 rfl)
 replace e_w := e_w.trans x
 have e_w2 := x
 clear hd hs x
 refine exit_then ?_
 refine wp_cond_split (show _ = _ from s21) (fun hc9 => ?_) (fun hc9 => ?_)
 · skip
   have hr9 := linkRight_no hc9
   refine wp_seq ?_
   refine wp_reg 64 [[], []] [?b6_0, ?b6_1] mixed (by kernel_rfl) (by kernel_rfl) hr ?t6 ?o6 ?_
   case o6 =>
    refine oc0 (fun A W hx hf => ?_) ?_
    exact ok_assignv (OwnBA 0 w.heap.size 5 []) (fun _ => ownBA_nil)
    refine oc0 (fun A W hx hf => ?_) ?_
    exact ok_assignc
    exact OpsOk.nil
   case t6 => exact inferInstance
   clear hr; intro a7 w7 x hr hd hs
   clear s1 s21
   have s2 := fa ?b6_0 a7 w7 2 (hd 0 2 rfl)
   have s3 := fa ?b6_1 a7 w7 3 (hd 1 3 rfl)
   replace e_w := e_w.trans x
   clear e_w2
   clear hd hs x
   refine exit_then ?_
   refine wp_ret ?_
   refine then_ret ?_
   refine ret_tmp2 Try.results13 hr e_w ?_
   first | exact ⟨_, _, rfl, OwnB.cast (OwnB.mono s2.own hB) (by unfold linkPutR; rw [if_neg (by first | (rw [hr9]; decide) | (rw [hr1]; decide))]), Is.int s3 (by unfold linkPutR; rw [if_neg (by first | (rw [hr9]; decide) | (rw [hr1]; decide))])⟩ | exact ⟨_, _, rfl, OwnB.cast (OwnB.mono s2.own hB) (by unfold linkPutR; rw [if_pos hr1, List.take_length]; simp [linkPut]), Is.int s3 (by unfold linkPutR; rw [if_pos hr1])⟩
 · skip
   obtain ⟨hr9, ht2, hty⟩ := linkRight_part hc9
   refine wp_skip ?_
   refine exit_then ?_
   refine wp_seq ?_
   refine wp_reg 64 [[(1, none)], [(22, some 0)], [(1, none)], [(24, some 2)], [(23, some 1), (25, some 3)], [(26, some 4)], [(27, some 5)]] [?b8_0, ?b8_1, ?b8_2, ?b8_3, ?b8_4, ?b8_5, ?b8_5] mixed (by kernel_rfl) (by kernel_rfl) hr ?t8 ?o8 ?_
   case o8 =>
    refine oc0 (fun A W hx hf => ?_) ?_
    exact ok_fieldS 0 Try.underlying27 (k := 0) rfl size24 rfl (o2 s1 e_w2 hx (r0 hf)) rfl
    refine oc0 (fun A W hx hf => ?_) ?_
    exact ok_sliceS Try.underlying24 size5 (q0 ?b8_0 A W 22 hf) rfl
    refine oc0 (fun A W hx hf => ?_) ?_
    exact ok_fieldS 1 Try.underlying27 (k := 1) rfl size24 rfl (o2 s1 e_w2 hx (r0 hf)) rfl
    refine oc0 (fun A W hx hf => ?_) ?_
    exact ok_sliceS Try.underlying24 size5 (q0 ?b8_2 A W 24 hf) rfl
    refine oc0 (fun A W hx hf => ?_) ?_
    exact ok_buildBss [(.tmp 23), (.tmp 25)] [_, _] Try.underlying54 size22 zero22 rfl rfl (by decide) (PartsOk.cons (SxS.all (q0 ?b8_1 A W 23 hf) rfl (by decide)) (PartsOk.cons (SxS.all (q1 ?b8_3 A W 25 hf) rfl (by decide)) (PartsOk.nil)))
    refine oc0 (fun A W hx hf => ?_) ?_
    exact ok_call1 body23 (c_concat (q0 ?b8_4 A W 26 hf) hx.size (by simp [hd6, hs6]))
    refine oc0 (fun A W hx hf => ?_) ?_
    exact ok_assign (q0 ?b8_5 A W 27 hf)
    exact OpsOk.nil
   case t8 => exact inferInstance
   clear hr; intro a9 w9 x hr hd hs
   have z_w_w4 := e_w.size
   have z_w2_w4 := e_w2.size
   have l9_1 := PxS.lt (later e_w2 s1)
   revert s1; refine kp1 hs rfl ?_; intro s1
   clear s21
   have s4 := fa ?b8_5 a9 w9 4 (hd 6 4 rfl)
   obtain ⟨g9_4, q9_4⟩ := OwnB.at s4; clear s4; have n9_4 := OwnBA.lt q9_4
   replace q9_4 := OwnBA.mono q9_4 e_w.size
   have s4 := q9_4; clear q9_4
   replace e_w := e_w.trans x
   replace e_w2 := e_w2.trans x
   clear hd hs x
   replace s4 := OwnBA.cast s4 (show _ = L.dst ++ L.src ++ (L.tags.take 0).flatMap tagPut from by simp)
   refine exit_then ?_
   refine wp_seq ?_
   refine wp_seq ?_
   refine wp_reg 64 [[(1, none)], [(28, some 0)], [(29, some 1)], []] [?b10_0, ?b10_1, ?b10_2, ?b10_3] mixed (by kernel_rfl) (by kernel_rfl) hr ?t10 ?o10 ?_
   case o10 =>
    refine oc0 (fun A W hx hf => ?_) ?_
    exact ok_fieldS 2 Try.underlying27 (k := 2) rfl size25 rfl (o2 s1 e_w2 hx (r0 hf)) rfl
    refine oc0 (fun A W hx hf => ?_) ?_
    exact ok_isW (ok_loadS Try.underlying25 rfl (q0 ?b10_0 A W 28 hf) rfl) hT
    refine oc0 (fun A W hx hf => ?_) ?_
    exact ok_len_rw Try.underlying25 (AtW.now (q0 ?b10_1 A W 29 hf) (e_w.trans hx))
    refine oc0 (fun A W hx hf => ?_) ?_
    exact ok_movec
    exact OpsOk.nil
   case t10 => exact inferInstance
   clear hr; intro a11 w11 x hr hd hs
   revert s4; revert s1; refine kp2 hs rfl ?_; intro s1 s4
   have s29 := AtW.base (fa ?b10_1 a11 w11 29 (hd 1 29 rfl))
   have s30 := fa ?b10_2 a11 w11 30 (hd 2 30 rfl)
   have s31 := fa ?b10_3 a11 w11 31 (hd 3 31 rfl)
   replace e_w := e_w.trans x
   replace e_w2 := e_w2.trans x
   have e_w9 := x
   clear hd hs x
   refine exit_then ?_
   refine wp_block ?_
   refine wp_loop_inv (fun n A W => ∃ (i β : Nat), n = L.tags.length - i ∧ Fr 64 A ∧ Same D_c_lPut_0 a11 A ∧ Ext w W ∧ (i ≤ L.tags.length) ∧ ((L.tags.take i).all tagOk = true) ∧ (g2_1 ≠ β) ∧ (PxS g2_1 w.heap.size [6, 6, 1, 1, 1] (lnkS L v) 0) (A.eval (.tmp 1)) W ∧ (OwnBA β w.heap.size 5 (L.dst ++ L.src ++ (L.tags.take i).flatMap tagPut)) (A.eval (.tmp 4)) W ∧ (AtW w (Rw tagR L.tags)) (A.eval (.tmp 29)) W ∧ (Is (.int .i64 (L.tags.length : Int))) (A.eval (.tmp 30)) W ∧ (Is (.int .i64 (i : Int))) (A.eval (.tmp 31)) W) ?start12 ?_
   case start12 =>
    refine ⟨_, 0, g9_4, rfl, hr, Same.rfl, e_w, (by omega), (by rfl), (by omega), ?_, ?_, ?_, ?_, ?_⟩
    · exact (later e_w2 s1)
    · exact (later e_w9 s4)
    · exact s29
    · first | exact s30 | exact Is.int s30 (by first | omega | simp) | exact Is.bool s30 (by first | omega | simp)
    · first | exact s31 | exact Is.int s31 (by first | omega | simp) | exact Is.bool s31 (by first | omega | simp)
   intro n12 a12 w12 hI
   clear e_w
   clear e_w2
   clear e_w9
   clear hr; obtain ⟨i, β, hn12, hr, hs, e_w, hi, hall, ne1, u1, u4, u29, u30, u31⟩ := hI
   clear s1 s4 s29 s30 s31
   have s1 := u1; clear u1
   have s4 := u4; clear u4
   have s29 := AtW.base u29; clear u29
   have s30 := u30; clear u30
   have s31 := u31; clear u31
   have m12 := hs; clear hs
   refine wp_seq ?_
   refine wp_reg 64 [[(31, none), (30, none)]] [?b13_0] mixed (by kernel_rfl) (by kernel_rfl) hr ?t13 ?o13 ?_
   case o13 =>
    refine oc0 (fun A W hx hf => ?_) ?_
    exact ok_lss (o1 s31 hx (r0 hf)) (o1 s30 hx (r1 hf))
    exact OpsOk.nil
   case t13 => exact inferInstance
   clear hr; intro a14 w14 x hr hd hs
   revert s31; revert s30; revert s29; revert s4; revert s1; refine kp5 hs rfl ?_; intro s1 s4 s29 s30 s31
   have s32 := fa ?b13_0 a14 w14 32 (hd 0 32 rfl)
   replace e_w := e_w.trans x
   have e_w12 := x
   replace m12 := m12.tr hs rfl
   clear hd hs x
   refine exit_then ?_
   refine wp_seq ?_
   refine wp_cond_split (show _ = _ from s32) (fun hlt => ?_) (fun hlt => ?_)
   · skip
     have hlt : i < L.tags.length := by simp at hlt; omega
     obtain ⟨X, hX⟩ : ∃ X, X = L.tags[i]'hlt := ⟨_, rfl⟩
     refine wp_skip ?_
     refine exit_then ?_
     refine wp_seq ?_
     refine wp_block ?_
     refine wp_seq ?_
     refine wp_reg_pre (l := [_, _, _]) (rest := [_]) 64 [[(29, none), (31, none)], [(33, some 0)], []] [?b16_0, ?b16_1, ?b16_2] (by kernel_rfl) (by kernel_rfl) hr ?t16 ?o16 ?_
     case o16 =>
      refine oc0 (fun A W hx hf => ?_) ?_
      exact ok_index_rw (_) Try.underlying25 size45 (o2 s29 e_w hx (r0 hf)) (o2 s31 e_w12 hx (r1 hf)) (by exact hlt)
      refine oc0 (fun A W hx hf => ?_) ?_
      exact ok_loadAll Try.underlying45 rfl size45 (q0 ?b16_0 A W 33 hf) (by rfl)
      refine oc0 (fun A W hx hf => ?_) ?_
      exact ok_allocS [[.int .i64 0], [.int .i64 0]] [1, 1] zerov45 (by rfl) (by rfl) hx.size
      exact OpsOk.nil
     case t16 => exact inferInstance
     clear hr; intro a17 w17 x hr hd hs
     have z_w_w14 := e_w.size
     have z_w12_w14 := e_w12.size
     have l17_1 := PxS.lt (later e_w12 s1)
     have l17_4 := OwnBA.lt (later e_w12 s4)
     revert s31; revert s30; revert s29; revert s4; revert s1; refine kp5 hs rfl ?_; intro s1 s4 s29 s30 s31
     clear s32
     have s34 := fa ?b16_1 a17 w17 34 (hd 1 34 rfl)
     have s6 := fa ?b16_2 a17 w17 6 (hd 2 6 rfl)
     obtain ⟨g17_6, q17_6⟩ := PxN.at s6; clear s6; have n17_6 := PxS.lt q17_6
     replace q17_6 := PxS.mono q17_6 e_w.size
     have s6 := q17_6; clear q17_6
     replace e_w := e_w.trans x
     replace e_w12 := e_w12.trans x
     replace m12 := m12.tr hs rfl
     clear hd hs x
     have z18 := PxS.lt s6
     have l18 := (show (g17_6 = 0 ∨ w.heap.size < g17_6) ∧ True from ⟨by omega, trivial⟩)
     have l18_1 := PxS.lt (later e_w12 s1)
     have l18_4 := OwnBA.lt (later e_w12 s4)
     refine wl_storeSm [[.int .i64 X.type], [.int .i64 X.tci]] hr size45 s6 (Is.conv s34 (show _ = Value.agg [[Value.int .i64 X.type], [Value.int .i64 X.tci]].flatten.toArray from by rw [hX]; rfl)) (by rfl) (by intro u hu; simp at hu; rcases hu with rfl | rfl <;> rfl) rfl ?_; clear hr; intro a18 w18 hc hu hr hs
     have hb : Below w.heap.size w17 w18 := hc.below e_w.size l18.1
     revert s6; revert s31; revert s30; revert s29; revert s4; revert s1; refine kp6 hs rfl ?_; intro s1 s4 s29 s30 s31 s6
     clear s34
     replace s1 := PxS.other (later e_w12 s1) hc (by omega)
     replace s4 := OwnBA.other (later e_w12 s4) hc (by omega)
     replace s6 := hu _ _ _ s6
     try simp only [List.set_cons_zero, List.set_cons_succ] at s6
     replace e_w := e_w.below (Nat.le_refl _) hb
     clear e_w12
     replace s30 := anyw (w2 := w18) s30
     replace s31 := anyw (w2 := w18) s31
     replace m12 := m12.tr hs rfl
     clear hu hs hc hb
     refine wpList_nil ?_
     refine exit_then ?_
     refine wp_seq ?_
     refine wp_seq ?_
     refine wp_reg 64 [[(6, none)], [(35, some 0)], [(36, some 1)], [(37, some 2)], [(38, some 3)], [(6, none), (39, some 4)], [(40, some 5), (39, some 4)], [(41, some 6), (39, some 4)], [(42, some 7), (39, some 4)], [(39, some 4), (43, some 8)]] [?b19_0, ?b19_1, ?b19_2, ?b19_3, ?b19_3, ?b19_5, ?b19_6, ?b19_7, ?b19_8, ?b19_9] mixed (by kernel_rfl) (by kernel_rfl) hr ?t19 ?o19 ?_
     case o19 =>
      refine oc0 (fun A W hx hf => ?_) ?_
      exact ok_fieldS 0 Try.underlying45 (k := 0) rfl size3 rfl (o1 s6 hx (r0 hf)) rfl
      refine oc0 (fun A W hx hf => ?_) ?_
      exact ok_loadS Try.underlying3 rfl (q0 ?b19_0 A W 35 hf) rfl
      refine oc0 (fun A W hx hf => ?_) ?_
      exact ok_call1 body19 (c_ltag (q0 ?b19_1 A W 36 hf))
      refine oc0 (fun A W hx hf => ?_) ?_
      exact ok_not (q0 ?b19_2 A W 37 hf)
      refine oc0 (fun A W hx hf => ?_) ?_
      exact ok_move (q0 ?b19_3 A W 38 hf)
      refine ocg 39 ?_ (fun A W hx hf => ?_) ?_
      rfl
      exact gd_f (q1 ?b19_3 A W 39 hf) (fun hc => ok_fieldS 1 Try.underlying45 (k := 1) rfl size3 rfl (o1 s6 hx (r0 hf)) rfl)
      refine ocg 39 ?_ (fun A W hx hf => ?_) ?_
      rfl
      exact gd_f (q1 ?b19_3 A W 39 hf) (fun hc => ok_loadS Try.underlying3 rfl (G.get (q0 ?b19_5 A W 40 hf) hc) rfl)
      refine ocg 39 ?_ (fun A W hx hf => ?_) ?_
      rfl
      exact gd_f (q1 ?b19_3 A W 39 hf) (fun hc => ok_call1 body22 (c_lin (G.get (q0 ?b19_6 A W 41 hf) hc)))
      refine ocg 39 ?_ (fun A W hx hf => ?_) ?_
      rfl
      exact gd_f (q1 ?b19_3 A W 39 hf) (fun hc => ok_not (G.get (q0 ?b19_7 A W 42 hf) hc))
      refine oc0 (fun A W hx hf => ?_) ?_
      exact ok_or (q0 ?b19_3 A W 39 hf) (q1 ?b19_8 A W 43 hf)
      exact OpsOk.nil
     case t19 => exact inferInstance
     clear hr; intro a20 w20 x hr hd hs
     revert s31; revert s30; revert s6; revert s4; revert s1; revert s29; refine kp6 hs rfl ?_; intro s29 s1 s4 s6 s30 s31
     have s44 := fa ?b19_9 a20 w20 44 (hd 9 44 rfl)
     replace e_w := e_w.trans x
     have e_w18 := x
     replace m12 := m12.tr hs rfl
     clear hd hs x
     refine exit_then ?_
     refine wp_cond_split (show _ = _ from s44) (fun hb9 => ?_) (fun hb9 => ?_)
     · skip
       have hok : tagOk (L.tags[i]'hlt) = false := by rw [← hX]; unfold tagOk; revert hb9; cases tagB X.type <;> cases inW X.tci <;> simp
       have hr1 : linkRight L = false := by rw [hr9]; exact all_no hlt hok
       refine wp_seq ?_
       refine wp_reg 64 [[], []] [?b22_0, ?b22_1] mixed (by kernel_rfl) (by kernel_rfl) hr ?t22 ?o22 ?_
       case o22 =>
        refine oc0 (fun A W hx hf => ?_) ?_
        exact ok_assignv (OwnBA 0 w.heap.size 5 []) (fun _ => ownBA_nil)
        refine oc0 (fun A W hx hf => ?_) ?_
        exact ok_assignc
        exact OpsOk.nil
       case t22 => exact inferInstance
       clear hr; intro a23 w23 x hr hd hs
       clear s29 s1 s4 s6 s30 s31 s44
       have s2 := fa ?b22_0 a23 w23 2 (hd 0 2 rfl)
       have s3 := fa ?b22_1 a23 w23 3 (hd 1 3 rfl)
       replace e_w := e_w.trans x
       clear e_w18
       replace m12 := m12.tr hs rfl
       clear hd hs x
       refine exit_then ?_
       refine wp_ret ?_
       refine then_ret ?_
       refine blk_ret ?_
       refine then_ret ?_
       refine then_ret ?_
       refine blk_ret ?_
       refine then_ret ?_
       refine ret_tmp2 Try.results13 hr e_w ?_
       first | exact ⟨_, _, rfl, OwnB.cast (OwnB.mono s2.own hB) (by unfold linkPutR; rw [if_neg (by first | (rw [hr9]; decide) | (rw [hr1]; decide))]), Is.int s3 (by unfold linkPutR; rw [if_neg (by first | (rw [hr9]; decide) | (rw [hr1]; decide))])⟩ | exact ⟨_, _, rfl, OwnB.cast (OwnB.mono s2.own hB) (by unfold linkPutR; rw [if_pos hr1, List.take_length]; simp [linkPut]), Is.int s3 (by unfold linkPutR; rw [if_pos hr1])⟩
     · skip
       have hokX : tagB X.type = true ∧ inW X.tci = true := by revert hb9; cases tagB X.type <;> cases inW X.tci <;> simp
       have hok : tagOk (L.tags[i]'hlt) = true := by rw [← hX]; unfold tagOk; rw [hokX.1, hokX.2]; rfl
       have b1 := tagB_bd hokX.1
       have b2 := inW_bd hokX.2
       have hfl := tags_len2 ht2 i
       refine wp_skip ?_
       refine exit_then ?_
       refine wp_seq ?_
       refine wp_reg_pre (l := [_, _, _, _, _]) (rest := [_, _]) 64 [[(4, none)], [(6, none)], [(46, some 1)], [(47, some 2)], [(48, some 3)]] [?b24_0, ?b24_1, ?b24_2, ?b24_3, ?b24_4] (by kernel_rfl) (by kernel_rfl) hr ?t24 ?o24 ?_
       case o24 =>
        refine oc0 (fun A W hx hf => ?_) ?_
        exact ok_movE (a0 := a20) (r0 hf)
        refine oc0 (fun A W hx hf => ?_) ?_
        exact ok_fieldS 0 Try.underlying45 (k := 0) rfl size3 rfl (o2 s6 e_w18 hx (r0 hf)) rfl
        refine oc0 (fun A W hx hf => ?_) ?_
        exact ok_loadS Try.underlying3 rfl (q0 ?b24_1 A W 46 hf) rfl
        refine oc0 (fun A W hx hf => ?_) ?_
        exact ok_convI Try.underlying3 Try.underlying51 (by exact IntWalk.u64_in _ (by omega)) (q0 ?b24_2 A W 47 hf)
        refine oc0 (fun A W hx hf => ?_) ?_
        exact ok_call3 body24 (c_Put (q0 ?b24_3 A W 48 hf) (show Is (.int .i64 2) (A.eval (.const (.int .i64 2))) _ from rfl) (show Is (.bool true) (A.eval (.const (.bool true))) _ from rfl) (by omega) hx.size)
        exact OpsOk.nil
       case t24 => exact inferInstance
       clear hr; intro a25 w25 x hr hd hs
       have z_w_w20 := e_w.size
       have z_w18_w20 := e_w18.size
       have l25_1 := PxS.lt (later e_w18 s1)
       have l25_4 := OwnBA.lt (later e_w18 s4)
       have l25_6 := PxS.lt (later e_w18 s6)
       have u45 := mv s4 (fa ?b24_0 a25 w25 45 (hd 0 45 rfl))
       revert s31; revert s30; revert s6; revert s4; revert s1; revert s29; refine kp6 hs rfl ?_; intro s29 s1 s4 s6 s30 s31
       clear s44
       have s45 := u45; clear u45
       have s49 := fa ?b24_4 a25 w25 49 (hd 4 49 rfl)
       obtain ⟨g25_49, q25_49⟩ := OwnB.at s49; clear s49; have n25_49 := OwnBA.lt q25_49
       replace q25_49 := OwnBA.mono q25_49 e_w.size
       have s49 := q25_49; clear q25_49
       replace e_w := e_w.trans x
       replace e_w18 := e_w18.trans x
       replace m12 := m12.tr hs rfl
       clear hd hs x
       have l26 := OwnBA.lt (later e_w18 s45)
       have l26_1 := PxS.lt (later e_w18 s1)
       have l26_6 := PxS.lt (later e_w18 s6)
       refine wl_append_bsA hr (by decide) Try.underlying22 info5 rfl (later e_w18 s45) (OwnBA.bs s49) e_w.size (by have hfl2 := tags_len2 ht2 L.tags.length; first | (simp only [List.length_append, put2_len]; omega) | (simp only [List.length_append, put2_len, List.take_length] at *; omega)) ?_; clear hr; intro g26 a26 w26 hg26 hc hr hd hs
       have hb := hc.below e_w.size l26.1
       revert s31; revert s30; revert s6; revert s1; revert s29; refine kp5 hs rfl ?_; intro s29 s1 s6 s30 s31
       clear s4 s45 s49
       replace s1 := PxS.other (later e_w18 s1) hc (by omega)
       replace s6 := PxS.other (later e_w18 s6) hc (by omega)
       have s50 := hd
       replace e_w := e_w.below (Nat.le_refl _) hb
       clear e_w18
       replace s30 := anyw (w2 := w26) s30
       replace s31 := anyw (w2 := w26) s31
       replace m12 := m12.tr hs rfl
       clear hd hs hb hc
       refine wl_op hr (ok_assign s50) inferInstance ?_; clear hr; intro a27 w27 x hr hd hs
       revert s31; revert s30; revert s6; revert s1; revert s29; refine kp5 hs rfl ?_; intro s29 s1 s6 s30 s31
       clear s50
       have s4 := hd 4 rfl (by decide)
       replace e_w := e_w.trans x
       have e_w26 := x
       replace m12 := m12.tr hs rfl
       clear hd hs x
       refine wpList_nil ?_
       refine exit_then ?_
       refine wp_reg_pre (l := [_, _, _, _, _]) (rest := [_, _]) 64 [[(4, none)], [(6, none)], [(52, some 1)], [(53, some 2)], [(54, some 3)]] [?b28_0, ?b28_1, ?b28_2, ?b28_3, ?b28_4] (by kernel_rfl) (by kernel_rfl) hr ?t28 ?o28 ?_
       case o28 =>
        refine oc0 (fun A W hx hf => ?_) ?_
        exact ok_movE (a0 := a27) (r0 hf)
        refine oc0 (fun A W hx hf => ?_) ?_
        exact ok_fieldS 1 Try.underlying45 (k := 1) rfl size3 rfl (o2 s6 e_w26 hx (r0 hf)) rfl
        refine oc0 (fun A W hx hf => ?_) ?_
        exact ok_loadS Try.underlying3 rfl (q0 ?b28_1 A W 52 hf) rfl
        refine oc0 (fun A W hx hf => ?_) ?_
        exact ok_convI Try.underlying3 Try.underlying51 (by exact IntWalk.u64_in _ (by omega)) (q0 ?b28_2 A W 53 hf)
        refine oc0 (fun A W hx hf => ?_) ?_
        exact ok_call3 body24 (c_Put (q0 ?b28_3 A W 54 hf) (show Is (.int .i64 2) (A.eval (.const (.int .i64 2))) _ from rfl) (show Is (.bool true) (A.eval (.const (.bool true))) _ from rfl) (by omega) hx.size)
        exact OpsOk.nil
       case t28 => exact inferInstance
       clear hr; intro a29 w29 x hr hd hs
       have z_w_w27 := e_w.size
       have z_w26_w27 := e_w26.size
       have l29_1 := PxS.lt (later e_w26 s1)
       have l29_6 := PxS.lt (later e_w26 s6)
       have l29_4 := OwnBA.lt s4
       have u51 := mv s4 (fa ?b28_0 a29 w29 51 (hd 0 51 rfl))
       revert s4; revert s31; revert s30; revert s1; revert s29; refine kp5 hs rfl ?_; intro s29 s1 s30 s31 s4
       clear s6
       have s51 := u51; clear u51
       have s55 := fa ?b28_4 a29 w29 55 (hd 4 55 rfl)
       obtain ⟨g29_55, q29_55⟩ := OwnB.at s55; clear s55; have n29_55 := OwnBA.lt q29_55
       replace q29_55 := OwnBA.mono q29_55 e_w.size
       have s55 := q29_55; clear q29_55
       replace e_w := e_w.trans x
       replace e_w26 := e_w26.trans x
       have e_w27 := x
       replace m12 := m12.tr hs rfl
       clear hd hs x
       have l30 := OwnBA.lt (later e_w27 s51)
       have l30_1 := PxS.lt (later e_w26 s1)
       refine wl_append_bsA hr (by decide) Try.underlying22 info5 rfl (later e_w27 s51) (OwnBA.bs s55) e_w.size (by have hfl2 := tags_len2 ht2 L.tags.length; first | (simp only [List.length_append, put2_len]; omega) | (simp only [List.length_append, put2_len, List.take_length] at *; omega)) ?_; clear hr; intro g30 a30 w30 hg30 hc hr hd hs
       have hb := hc.below e_w.size l30.1
       revert s31; revert s30; revert s1; revert s29; refine kp4 hs rfl ?_; intro s29 s1 s30 s31
       clear s4 s51 s55
       replace s1 := PxS.other (later e_w26 s1) hc (by omega)
       have s56 := hd
       replace e_w := e_w.below (Nat.le_refl _) hb
       clear e_w26
       clear e_w27
       replace s30 := anyw (w2 := w30) s30
       replace s31 := anyw (w2 := w30) s31
       replace m12 := m12.tr hs rfl
       clear hd hs hb hc
       refine wl_op hr (ok_assign s56) inferInstance ?_; clear hr; intro a31 w31 x hr hd hs
       revert s31; revert s30; revert s1; revert s29; refine kp4 hs rfl ?_; intro s29 s1 s30 s31
       clear s56
       have s4 := hd 4 rfl (by decide)
       replace e_w := e_w.trans x
       have e_w30 := x
       replace m12 := m12.tr hs rfl
       clear hd hs x
       refine wpList_nil ?_
       refine blk_normal ?_
       refine exit_then ?_
       refine wp_reg 64 [[(31, none)], [(57, some 0)]] [?b32_0, ?b32_0] mixed (by kernel_rfl) (by kernel_rfl) hr ?t32 ?o32 ?_
       case o32 =>
        refine oc0 (fun A W hx hf => ?_) ?_
        exact ok_addI (o2 s31 e_w30 hx (r0 hf)) (ec A (.int .i64 1)) (by omega)
        refine oc0 (fun A W hx hf => ?_) ?_
        exact ok_move (q0 ?b32_0 A W 57 hf)
        exact OpsOk.nil
       case t32 => exact inferInstance
       clear hr; intro a33 w33 x hr hd hs
       revert s4; revert s30; revert s1; revert s29; refine kp4 hs rfl ?_; intro s29 s1 s30 s4
       clear s31
       have s31 := fa ?b32_0 a33 w33 31 (hd 1 31 rfl)
       replace e_w := e_w.trans x
       replace e_w30 := e_w30.trans x
       have e_w31 := x
       replace m12 := m12.tr hs rfl
       clear hd hs x
       refine exit_then ?_
       refine ⟨(fun (i β : Nat) => L.tags.length - i) (i + 1) (0), ?_, ?_⟩
       · (try dsimp only); omega
       refine ⟨i + 1, g30, rfl, hr, m12, e_w, (by omega), (by exact all_step hlt hall hok), (by omega), ?_, ?_, ?_, ?_, ?_⟩
       · exact (later e_w30 s1)
       · exact OwnBA.cast (later e_w31 s4) (by rw [tags_step hlt, ← hX]; simp [tagPut])
       · exact s29
       · first | exact (later e_w30 s30) | exact Is.int (later e_w30 s30) (by first | omega | simp) | exact Is.bool (later e_w30 s30) (by first | omega | simp)
       · first | exact s31 | exact Is.int s31 (by first | omega | simp) | exact Is.bool s31 (by first | omega | simp)
   · skip
     have hlt : i = L.tags.length := by simp at hlt; omega
     subst hlt
     rw [List.take_length] at hall
     have hr1 : linkRight L = true := by rw [hr9]; exact hall
     refine wp_exit ?_
     refine then_exit ?_
     refine then_exit ?_
     refine blk_exit ?_
     refine exit_then ?_
     refine wp_seq ?_
     refine wp_reg_pre (l := [_, _, _, _, _]) (rest := [_, _, _]) 64 [[(4, none)], [(1, none)], [(59, some 1)], [(60, some 2)], [(61, some 3)]] [?b34_0, ?b34_1, ?b34_2, ?b34_3, ?b34_4] (by kernel_rfl) (by kernel_rfl) hr ?t34 ?o34 ?_
     case o34 =>
      refine oc0 (fun A W hx hf => ?_) ?_
      exact ok_movE (a0 := a14) (r0 hf)
      refine oc0 (fun A W hx hf => ?_) ?_
      exact ok_fieldS 3 Try.underlying27 (k := 3) rfl size3 rfl (o2 s1 e_w12 hx (r0 hf)) rfl
      refine oc0 (fun A W hx hf => ?_) ?_
      exact ok_loadS Try.underlying3 rfl (q0 ?b34_1 A W 59 hf) rfl
      refine oc0 (fun A W hx hf => ?_) ?_
      exact ok_convI Try.underlying3 Try.underlying51 (by exact IntWalk.u64_in _ (by omega)) (q0 ?b34_2 A W 60 hf)
      refine oc0 (fun A W hx hf => ?_) ?_
      exact ok_call3 body24 (c_Put (q0 ?b34_3 A W 61 hf) (show Is (.int .i64 2) (A.eval (.const (.int .i64 2))) _ from rfl) (show Is (.bool true) (A.eval (.const (.bool true))) _ from rfl) (by omega) hx.size)
      exact OpsOk.nil
     case t34 => exact inferInstance
     clear hr; intro a35 w35 x hr hd hs
     have z_w_w14 := e_w.size
     have z_w12_w14 := e_w12.size
     have l35_1 := PxS.lt (later e_w12 s1)
     have l35_4 := OwnBA.lt (later e_w12 s4)
     have u58 := mv s4 (fa ?b34_0 a35 w35 58 (hd 0 58 rfl))
     clear s1 s4 s29 s30 s31 s32
     have s58 := u58; clear u58
     have s62 := fa ?b34_4 a35 w35 62 (hd 4 62 rfl)
     obtain ⟨g35_62, q35_62⟩ := OwnB.at s62; clear s62; have n35_62 := OwnBA.lt q35_62
     replace q35_62 := OwnBA.mono q35_62 e_w.size
     have s62 := q35_62; clear q35_62
     replace e_w := e_w.trans x
     replace e_w12 := e_w12.trans x
     clear hd hs x
     have l36 := OwnBA.lt (later e_w12 s58)
     refine wl_append_bsA hr (by decide) Try.underlying22 info5 rfl (later e_w12 s58) (OwnBA.bs s62) e_w.size (by have hfl2 := tags_len2 ht2 L.tags.length; first | (simp only [List.length_append, put2_len]; omega) | (simp only [List.length_append, put2_len, List.take_length] at *; omega)) ?_; clear hr; intro g36 a36 w36 hg36 hc hr hd hs
     have hb := hc.below e_w.size l36.1
     clear s58 s62
     have s63 := hd
     replace e_w := e_w.below (Nat.le_refl _) hb
     clear e_w12
     clear hd hs hb hc
     refine wl_op hr (ok_assign s63) inferInstance ?_; clear hr; intro a37 w37 x hr hd hs
     clear s63
     have s2 := hd 2 rfl (by decide)
     replace e_w := e_w.trans x
     clear hd hs x
     refine wl_op hr (ok_assignc) inferInstance ?_; clear hr; intro a38 w38 x hr hd hs
     revert s2; refine kp1 hs rfl ?_; intro s2
     have s3 := hd 3 rfl (by decide)
     replace e_w := e_w.trans x
     have e_w37 := x
     clear hd hs x
     refine wpList_nil ?_
     refine exit_then ?_
     refine wp_ret ?_
     refine ret_tmp2 Try.results13 hr e_w ?_
     first | exact ⟨_, _, rfl, OwnB.cast (OwnB.mono (later e_w37 s2).own hB) (by unfold linkPutR; rw [if_neg (by first | (rw [hr9]; decide) | (rw [hr1]; decide))]), Is.int s3 (by unfold linkPutR; rw [if_neg (by first | (rw [hr9]; decide) | (rw [hr1]; decide))])⟩ | exact ⟨_, _, rfl, OwnB.cast (OwnB.mono (later e_w37 s2).own hB) (by unfold linkPutR; rw [if_pos hr1, List.take_length]; simp [linkPut]), Is.int s3 (by unfold linkPutR; rw [if_pos hr1])⟩

end Go.Proofs.Ytdbjpfjnambenaa
