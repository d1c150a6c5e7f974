import Derived.Test.YteccaejdgefdpaaA10
namespace Go.Proofs.Yteccaejdgefdpaa
open Go.RowKit
set_option linter.unusedVariables false
set_option maxRecDepth 4000
def D_law_PortKeeps_0 : List Tmp := [11, 42, 43, 44, 45, 46, 47, 48, 49, 50]
theorem law_PortKeeps {x0 x1 x2 x3 : Value} {w : World} {Sa Da : Adr} {u : Bool} {l : List UInt8} (h0 : (Is (AdrV Sa)) x0 w) (h1 : (Is (AdrV Da)) x1 w) (h2 : (Is (.bool u)) x2 w) (h3 : (Bs l) x3 w) (hA : Sa.b.length = 16) (hD : Da.b.length = 16) :
    Calls Try.prog 8 #[x0, x1, x2, x3] w (Ret (Is (.bool true)) w) := by
 refine enter Try.func8 rfl Try.ntmps8 (k := 4) rfl (by decide) (fun a0 hr hargs => ?_)
 have s0 := sarg h0 (hargs 0 (by decide))
 have s1 := sarg h1 (hargs 1 (by decide))
 have s2 := sarg h2 (hargs 2 (by decide))
 have s3 := sarg h3 (hargs 3 (by decide))
 clear hargs
 refine wp_seq ?_
 refine wp_reg 59 [[(0, none)], [(1, none)], []] [?b1_0, ?b1_1, ?b1_2] mixed (by kernel_rfl) (by kernel_rfl) hr ?t1 ?o1 ?_
 case o1 =>
  refine oc0 (fun A W hx hf => ?_) ?_
  exact ok_boxS [[.bool Sa.six], Sa.b.map byteV] [1, 16] (Is.conv (o1 s0 hx (r0 hf)) (adr_seg Sa).symm) (by simp [*]) hx.size
  refine oc0 (fun A W hx hf => ?_) ?_
  exact ok_boxS [[.bool Da.six], Da.b.map byteV] [1, 16] (Is.conv (o1 s1 hx (r0 hf)) (adr_seg Da).symm) (by simp [*]) hx.size
  refine oc0 (fun A W hx hf => ?_) ?_
  exact ok_assignc
  exact OpsOk.nil
 case t1 => exact inferInstance
 clear hr; intro a2 w2 x hr hd hs
 revert s2 s3; refine kp2 hs rfl ?_; intro s2 s3
 clear s0 s1
 have s4 := fa ?b1_0 a2 w2 4 (hd 0 4 rfl)
 have s5 := fa ?b1_1 a2 w2 5 (hd 1 5 rfl)
 obtain ⟨g2_4, q2_4⟩ := PxN.at s4; clear s4; have n2_4 := PxS.lt q2_4
 have s4 := q2_4; clear q2_4
 obtain ⟨g2_5, q2_5⟩ := PxN.at s5; clear s5; have n2_5 := PxS.lt q2_5
 have s5 := q2_5; clear q2_5
 have e_w := x
 clear hd hs x
 refine exit_then ?_
 refine wp_seq ?_
 refine wp_seq ?_
 refine wp_reg 59 [[], [(12, some 0)], [(13, some 1)], [(4, none), (14, some 2)], [(5, none), (14, some 2)], [(2, none), (14, some 2)], [(3, none), (14, some 2)], [(15, some 3), (16, some 4), (17, some 5), (18, some 6), (14, some 2)], [(19, some 7), (14, some 2)], [(14, some 2), (20, some 8)]] [?b3_0, ?b3_1, ?b3_1, ?b3_3, ?b3_4, ?b3_5, ?b3_6, ?b3_7, ?b3_8, ?b3_9] mixed (by kernel_rfl) (by kernel_rfl) hr ?t3 ?o3 ?_
 case o3 =>
  refine oc0 (fun A W hx hf => ?_) ?_
  exact ok_call0 body9 (c_awake10 )
  refine oc0 (fun A W hx hf => ?_) ?_
  exact ok_not (q0 ?b3_0 A W 12 hf)
  refine oc0 (fun A W hx hf => ?_) ?_
  exact ok_move (q0 ?b3_1 A W 13 hf)
  refine ocg 14 ?_ (fun A W hx hf => ?_) ?_
  rfl
  exact gd_f (q1 ?b3_1 A W 14 hf) (fun hc => ok_loadAggS 2 Try.underlying35 rfl size35 (o1 s4 hx (r0 hf)) rfl)
  refine ocg 14 ?_ (fun A W hx hf => ?_) ?_
  rfl
  exact gd_f (q1 ?b3_1 A W 14 hf) (fun hc => ok_loadAggS 2 Try.underlying35 rfl size35 (o1 s5 hx (r0 hf)) rfl)
  refine ocg 14 ?_ (fun A W hx hf => ?_) ?_
  rfl
  exact gd_f (q1 ?b3_1 A W 14 hf) (fun hc => ok_movE (a0 := a2) (r0 hf))
  refine ocg 14 ?_ (fun A W hx hf => ?_) ?_
  rfl
  exact gd_f (q1 ?b3_1 A W 14 hf) (fun hc => ok_movE (a0 := a2) (r0 hf))
  refine ocg 14 ?_ (fun A W hx hf => ?_) ?_
  rfl
  exact gd_f (q4 ?b3_1 A W 14 hf) (fun hc => ok_call4 body14 (c_fit (Is.conv (G.get (q0 ?b3_3 A W 15 hf) hc) (adr_seg Sa)) (Is.conv (G.get (q1 ?b3_4 A W 16 hf) hc) (adr_seg Da)) (p2 s2 e_w hx (G.get (q2 ?b3_5 A W 17 hf) hc)) (p2 s3 e_w hx (G.get (q3 ?b3_6 A W 18 hf) hc)) (by assumption) (by assumption)))
  refine ocg 14 ?_ (fun A W hx hf => ?_) ?_
  rfl
  exact gd_f (q1 ?b3_1 A W 14 hf) (fun hc => ok_not (G.get (q0 ?b3_7 A W 19 hf) hc))
  refine oc0 (fun A W hx hf => ?_) ?_
  exact ok_or (q0 ?b3_1 A W 14 hf) (q1 ?b3_8 A W 20 hf)
  exact OpsOk.nil
 case t3 => exact inferInstance
 clear hr; intro a4 w4 x hr hd hs
 revert s2 s3 s4 s5; refine kp4 hs rfl ?_; intro s2 s3 s4 s5
 have s21 := fa ?b3_9 a4 w4 21 (hd 9 21 rfl)
 replace e_w := e_w.trans x
 have e_w2 := x
 clear hd hs x
 refine exit_then ?_
 refine wp_cond_split (show _ = _ from s21) (fun hg => ?_) (fun hg => ?_)
 · skip
   skip
   refine wp_seq ?_
   refine wp_reg 59 [[], [(22, some 0)]] [?b6_0, ?b6_0] mixed (by kernel_rfl) (by kernel_rfl) hr ?t6 ?o6 ?_
   case o6 =>
    refine oc0 (fun A W hx hf => ?_) ?_
    exact ok_call0 body9 (c_awake10 )
    refine oc0 (fun A W hx hf => ?_) ?_
    exact ok_assign (q0 ?b6_0 A W 22 hf)
    exact OpsOk.nil
   case t6 => exact inferInstance
   clear hr; intro a7 w7 x hr hd hs
   clear s2 s3 s4 s5 s21
   have s8 := fa ?b6_0 a7 w7 8 (hd 1 8 rfl)
   replace e_w := e_w.trans x
   clear e_w2
   clear hd hs x
   refine exit_then ?_
   refine wp_ret ?_
   refine then_ret ?_
   refine ret_tmp Try.results8 hr e_w ?_
   first | with_reducible exact s8 | exact Is.bool s8 (by simp)
 · skip
   obtain ⟨hsix, hok, hl⟩ := fit_yes hg
   refine wp_skip ?_
   refine exit_then ?_
   refine wp_seq ?_
   refine wp_reg_pre (l := [_, _]) (rest := [_, _]) 59 [[], [(3, none)]] [?b8_0, ?b8_1] (by kernel_rfl) (by kernel_rfl) hr ?t8 ?o8 ?_
   case o8 =>
    refine oc0 (fun A W hx hf => ?_) ?_
    exact ok_ownBs [] [] Try.underlying22 size5 zero5 rfl rfl (by decide) hx.size (PartsOk.nil)
    refine oc0 (fun A W hx hf => ?_) ?_
    exact ok_movE (a0 := a4) (r0 hf)
    exact OpsOk.nil
   case t8 => exact inferInstance
   clear hr; intro a9 w9 x hr hd hs
   have z_w_w4 := e_w.size
   have z_w2_w4 := e_w2.size
   have l9_4 := PxS.lt (later e_w2 s4)
   have l9_5 := PxS.lt (later e_w2 s5)
   have u24 := mv s3 (fa ?b8_1 a9 w9 24 (hd 1 24 rfl))
   revert s2 s3 s4 s5; refine kp4 hs rfl ?_; intro s2 s3 s4 s5
   clear s21
   have s24 := u24; clear u24
   have s23 := fa ?b8_0 a9 w9 23 (hd 0 23 rfl)
   obtain ⟨g9_23, q9_23⟩ := OwnB.at s23; clear s23; have n9_23 := OwnBA.lt q9_23
   replace q9_23 := OwnBA.mono q9_23 e_w.size
   have s23 := q9_23; clear q9_23
   replace e_w := e_w.trans x
   replace e_w2 := e_w2.trans x
   clear hd hs x
   have l10 := OwnBA.lt s23
   have l10_4 := PxS.lt (later e_w2 s4)
   have l10_5 := PxS.lt (later e_w2 s5)
   refine wl_append_bsA hr (by decide) Try.underlying22 info5 rfl s23 (later e_w s24) e_w.size (by simp; omega) ?_; clear hr; intro g10 a10 w10 hg10 hc hr hd hs
   have hb := hc.below e_w.size l10.1
   revert s2 s3 s4 s5; refine kp4 hs rfl ?_; intro s2 s3 s4 s5
   clear s24 s23
   replace s4 := PxS.other (later e_w2 s4) hc (by omega)
   replace s5 := PxS.other (later e_w2 s5) hc (by omega)
   have s25 := hd
   replace e_w := e_w.below (Nat.le_refl _) hb
   clear e_w2
   clear hd hs hb hc
   refine wl_op hr (ok_assign s25) inferInstance ?_; clear hr; intro a11 w11 x hr hd hs
   revert s2 s3 s4 s5; refine kp4 hs rfl ?_; intro s2 s3 s4 s5
   clear s25
   have s9 := hd 9 rfl (by decide)
   replace e_w := e_w.trans x
   have e_w10 := x
   clear hd hs x
   refine wpList_nil ?_
   replace s9 := OwnBA.cast s9 (show _ = l from by simp)
   refine exit_then ?_
   refine wp_seq ?_
   refine wp_reg 59 [[(4, none)], [(5, none)], [(2, none)], [(28, some 2)], [(9, none)], [(26, some 0), (27, some 1), (29, some 3), (30, some 4)], [(31, some 5)]] [?b12_0, ?b12_1, ?b12_2, ?b12_3, ?b12_4, ?b12_5, ?b12_5] mixed (by kernel_rfl) (by kernel_rfl) hr ?t12 ?o12 ?_
   case o12 =>
    refine oc0 (fun A W hx hf => ?_) ?_
    exact ok_loadAggS 2 Try.underlying35 rfl size35 (o2 s4 e_w10 hx (r0 hf)) rfl
    refine oc0 (fun A W hx hf => ?_) ?_
    exact ok_loadAggS 2 Try.underlying35 rfl size35 (o2 s5 e_w10 hx (r0 hf)) rfl
    refine oc0 (fun A W hx hf => ?_) ?_
    exact ok_movE (a0 := a11) (r0 hf)
    refine oc0 (fun A W hx hf => ?_) ?_
    exact ok_call1 body16 (c_proto (p2 s2 e_w hx (q0 ?b12_2 A W 28 hf)))
    refine oc0 (fun A W hx hf => ?_) ?_
    exact ok_movE (a0 := a11) (r0 hf)
    refine oc0 (fun A W hx hf => ?_) ?_
    exact ok_call4 body19 (c_pFill (Is.conv (q0 ?b12_0 A W 26 hf) (adr_seg Sa)) (Is.conv (q1 ?b12_1 A W 27 hf) (adr_seg Da)) (q2 ?b12_3 A W 29 hf) (OwnBA.bs (p1 s9 hx (q3 ?b12_4 A W 30 hf))) (by assumption) (by assumption) (by assumption) (by omega) hx.size)
    refine oc0 (fun A W hx hf => ?_) ?_
    exact ok_assign (q0 ?b12_5 A W 31 hf)
    exact OpsOk.nil
   case t12 => exact inferInstance
   clear hr; intro a13 w13 x hr hd hs
   have z_w_w11 := e_w.size
   have z_w10_w11 := e_w10.size
   have l13_4 := PxS.lt (later e_w10 s4)
   have l13_5 := PxS.lt (later e_w10 s5)
   have l13_9 := OwnBA.lt s9
   revert s2 s3 s4 s5 s9; refine kp5 hs rfl ?_; intro s2 s3 s4 s5 s9
   have s10 := fa ?b12_5 a13 w13 10 (hd 6 10 rfl)
   obtain ⟨g13_10, q13_10⟩ := OwnB.at s10; clear s10; have n13_10 := OwnBA.lt q13_10
   replace q13_10 := OwnBA.mono q13_10 e_w.size
   have s10 := q13_10; clear q13_10
   replace e_w := e_w.trans x
   replace e_w10 := e_w10.trans x
   have e_w11 := x
   clear hd hs x
   refine exit_then ?_
   refine wp_seq ?_
   refine wp_reg 59 [[(4, none)], [(5, none)], [(2, none)], [(34, some 2)], [(9, none)], [(32, some 0), (33, some 1), (35, some 3), (36, some 4)]] [?b14_0, ?b14_1, ?b14_2, ?b14_3, ?b14_4, ?b14_5] mixed (by kernel_rfl) (by kernel_rfl) hr ?t14 ?o14 ?_
   case o14 =>
    refine oc0 (fun A W hx hf => ?_) ?_
    exact ok_loadAggS 2 Try.underlying35 rfl size35 (o2 s4 e_w10 hx (r0 hf)) rfl
    refine oc0 (fun A W hx hf => ?_) ?_
    exact ok_loadAggS 2 Try.underlying35 rfl size35 (o2 s5 e_w10 hx (r0 hf)) rfl
    refine oc0 (fun A W hx hf => ?_) ?_
    exact ok_movE (a0 := a13) (r0 hf)
    refine oc0 (fun A W hx hf => ?_) ?_
    exact ok_call1 body16 (c_proto (p2 s2 e_w hx (q0 ?b14_2 A W 34 hf)))
    refine oc0 (fun A W hx hf => ?_) ?_
    exact ok_movE (a0 := a13) (r0 hf)
    refine oc0 (fun A W hx hf => ?_) ?_
    exact ok_call4 body15 (c_pRight (Is.conv (q0 ?b14_0 A W 32 hf) (adr_seg Sa)) (Is.conv (q1 ?b14_1 A W 33 hf) (adr_seg Da)) (q2 ?b14_3 A W 35 hf) (OwnBA.bs (p2 s9 e_w11 hx (q3 ?b14_4 A W 36 hf))) (by assumption) (by assumption) (by assumption) (by omega))
    exact OpsOk.nil
   case t14 => exact inferInstance
   clear hr; intro a15 w15 x hr hd hs
   revert s2 s3 s4 s5 s9 s10; refine kp6 hs rfl ?_; intro s2 s3 s4 s5 s9 s10
   replace e_w := e_w.trans x
   replace e_w10 := e_w10.trans x
   replace e_w11 := e_w11.trans x
   have e_w13 := x
   clear hd hs x
   refine exit_then ?_
   refine wp_seq ?_
   refine wp_seq ?_
   refine wp_reg 59 [[(9, none)], [(3, none)], [(38, some 0), (39, some 1)], [(40, some 2)]] [?b16_0, ?b16_1, ?b16_2, ?b16_3] mixed (by kernel_rfl) (by kernel_rfl) hr ?t16 ?o16 ?_
   case o16 =>
    refine oc0 (fun A W hx hf => ?_) ?_
    exact ok_movE (a0 := a15) (r0 hf)
    refine oc0 (fun A W hx hf => ?_) ?_
    exact ok_movE (a0 := a15) (r0 hf)
    refine oc0 (fun A W hx hf => ?_) ?_
    exact ok_call2 body18 (c_Same (OwnBA.bs (p2 s9 e_w11 hx (q0 ?b16_0 A W 38 hf))) (p2 s3 e_w hx (q1 ?b16_1 A W 39 hf)))
    refine oc0 (fun A W hx hf => ?_) ?_
    exact ok_not (q0 ?b16_2 A W 40 hf)
    exact OpsOk.nil
   case t16 => exact inferInstance
   clear hr; intro a17 w17 x hr hd hs
   revert s2 s3 s4 s5 s9 s10; refine kp6 hs rfl ?_; intro s2 s3 s4 s5 s9 s10
   have s41 := fa ?b16_3 a17 w17 41 (hd 3 41 rfl)
   replace e_w := e_w.trans x
   replace e_w10 := e_w10.trans x
   replace e_w11 := e_w11.trans x
   replace e_w13 := e_w13.trans x
   clear hd hs x
   refine exit_then ?_
   refine wp_cond_split (show _ = _ from s41) (fun hd9 => ?_) (fun hd9 => ?_)
   · skip
     exfalso; simp at hd9
   · skip
     try simp only [decide_eq_true_eq, decide_eq_false_iff_not, Bool.not_eq_true', Bool.not_eq_false', Bool.not_true, Bool.not_false, Bool.and_eq_true, Bool.and_eq_false_iff, Bool.or_eq_true, Bool.or_eq_false_iff, bne_iff_ne, beq_iff_eq, ne_eq, beq_eq_false_iff_ne, bne_eq_false_iff_eq] at hd9
     refine wp_skip ?_
     refine exit_then ?_
     refine wp_seq ?_
     refine wp_seq ?_
     refine wp_reg 59 [[]] [?b19_0] mixed (by kernel_rfl) (by kernel_rfl) hr ?t19 ?o19 ?_
     case o19 =>
      refine oc0 (fun A W hx hf => ?_) ?_
      exact ok_assignc
      exact OpsOk.nil
     case t19 => exact inferInstance
     clear hr; intro a20 w20 x hr hd hs
     revert s2 s3 s4 s5 s9 s10; refine kp6 hs rfl ?_; intro s2 s3 s4 s5 s9 s10
     clear s41
     have s11 := fa ?b19_0 a20 w20 11 (hd 0 11 rfl)
     replace e_w := e_w.trans x
     replace e_w10 := e_w10.trans x
     replace e_w11 := e_w11.trans x
     replace e_w13 := e_w13.trans x
     clear hd hs x
     refine exit_then ?_
     refine wp_block ?_
     refine wp_loop_inv (fun n A W => ∃ (i : Nat) (m : List UInt8), n = m.length - i ∧ Fr 59 A ∧ Same D_law_PortKeeps_0 a20 A ∧ Ext w W ∧ (m.length = l.length) ∧ (PxS g2_4 w.heap.size [1, 16] [[.bool Sa.six], Sa.b.map byteV] 0) (A.eval (.tmp 4)) W ∧ (PxS g2_5 w.heap.size [1, 16] [[.bool Da.six], Da.b.map byteV] 0) (A.eval (.tmp 5)) W ∧ (OwnBA g10 w.heap.size 5 m) (A.eval (.tmp 9)) W ∧ (OwnBA g13_10 w.heap.size 5 (pFill Sa Da (protoI u) l)) (A.eval (.tmp 10)) W ∧ (Is (.int .i64 (i : Int))) (A.eval (.tmp 11)) W) ?start21 ?_
     case start21 =>
      refine ⟨_, 0, l, rfl, hr, Same.rfl, e_w, (by rfl), ?_, ?_, ?_, ?_, ?_⟩
      · first | exact (later e_w10 s4) | exact Is.int (later e_w10 s4) (by first | omega | simp) | exact Is.bool (later e_w10 s4) (by first | omega | simp)
      · first | exact (later e_w10 s5) | exact Is.int (later e_w10 s5) (by first | omega | simp) | exact Is.bool (later e_w10 s5) (by first | omega | simp)
      · first | exact (later e_w11 s9) | exact Is.int (later e_w11 s9) (by first | omega | simp) | exact Is.bool (later e_w11 s9) (by first | omega | simp)
      · first | exact (later e_w13 s10) | exact Is.int (later e_w13 s10) (by first | omega | simp) | exact Is.bool (later e_w13 s10) (by first | omega | simp)
      · first | exact s11 | exact Is.int s11 (by first | omega | simp) | exact Is.bool s11 (by first | omega | simp)
     intro n21 a21 w21 hI
     clear e_w
     clear e_w10
     clear e_w11
     clear e_w13
     clear hr; obtain ⟨i, m, hn21, hr, hs, e_w, hm, u4, u5, u9, u10, u11⟩ := hI
     revert s2 s3; refine kp2 hs rfl ?_; intro s2 s3
     clear s4 s5 s9 s10 s11
     have s4 := u4; clear u4
     have s5 := u5; clear u5
     have s9 := u9; clear u9
     have s10 := u10; clear u10
     have s11 := u11; clear u11
     have m21 := hs; clear hs
     refine wp_seq ?_
     refine wp_seq ?_
     refine wp_reg 59 [[(11, none)], [(9, none)], [(43, some 1)], [(42, some 0), (44, some 2)]] [?b22_0, ?b22_1, ?b22_2, ?b22_3] mixed (by kernel_rfl) (by kernel_rfl) hr ?t22 ?o22 ?_
     case o22 =>
      refine oc0 (fun A W hx hf => ?_) ?_
      exact ok_movE (a0 := a21) (r0 hf)
      refine oc0 (fun A W hx hf => ?_) ?_
      exact ok_movE (a0 := a21) (r0 hf)
      refine oc0 (fun A W hx hf => ?_) ?_
      exact ok_len_bs Try.underlying22 (OwnBA.bs (p1 s9 hx (q0 ?b22_1 A W 43 hf)))
      refine oc0 (fun A W hx hf => ?_) ?_
      exact ok_lss (p1 s11 hx (q0 ?b22_0 A W 42 hf)) (q1 ?b22_2 A W 44 hf)
      exact OpsOk.nil
     case t22 => exact inferInstance
     clear hr; intro a23 w23 x hr hd hs
     revert s2 s3 s4 s5 s9 s10; refine kp6 hs rfl ?_; intro s2 s3 s4 s5 s9 s10
     revert s11; refine kp1 hs rfl ?_; intro s11
     have s45 := fa ?b22_3 a23 w23 45 (hd 3 45 rfl)
     replace e_w := e_w.trans x
     have e_w21 := x
     replace m21 := m21.tr hs rfl
     clear hd hs x
     refine exit_then ?_
     refine wp_cond_split (show _ = _ from s45) (fun hlt => ?_) (fun hlt => ?_)
     · skip
       have hlt : i < m.length := by simp at hlt; omega
       refine wp_skip ?_
       refine exit_then ?_
       refine wp_seq ?_
       refine wp_block ?_
       refine wp_reg_pre (l := [_, _, _]) (rest := [_]) 59 [[(9, none)], [(11, none)], [(48, some 0), (49, some 1)]] [?b25_0, ?b25_1, ?b25_2] (by kernel_rfl) (by kernel_rfl) hr ?t25 ?o25 ?_
       case o25 =>
        refine oc0 (fun A W hx hf => ?_) ?_
        exact ok_movE (a0 := a23) (r0 hf)
        refine oc0 (fun A W hx hf => ?_) ?_
        exact ok_movE (a0 := a23) (r0 hf)
        refine oc0 (fun A W hx hf => ?_) ?_
        exact ok_indexA (_) Try.underlying22 size5 (p2 s9 e_w21 hx (q0 ?b25_0 A W 48 hf)) (p2 s11 e_w21 hx (q1 ?b25_1 A W 49 hf)) (by exact hlt)
        exact OpsOk.nil
       case t25 => exact inferInstance
       clear hr; intro a26 w26 x hr hd hs
       revert s2 s3 s4 s5 s9 s10; refine kp6 hs rfl ?_; intro s2 s3 s4 s5 s9 s10
       revert s11; refine kp1 hs rfl ?_; intro s11
       clear s45
       have s50 := fa ?b25_2 a26 w26 50 (hd 2 50 rfl)
       replace e_w := e_w.trans x
       replace e_w21 := e_w21.trans x
       replace m21 := m21.tr hs rfl
       clear hd hs x
       have z27 := EpA.lt s50
       have l27 := (show (g10 = 0 ∨ w.heap.size < g10) ∧ True from ⟨by omega, trivial⟩)
       have l27_4 := PxS.lt (later e_w21 s4)
       have l27_5 := PxS.lt (later e_w21 s5)
       have l27_10 := OwnBA.lt (later e_w21 s10)
       refine wl_storeA hr size5 s50 (show ByteIs 0 _ _ from rfl) ?_; clear hr; intro a27 w27 hc hu hr hs
       have hb : Below w.heap.size w26 w27 := hc.below e_w.size l27.1
       revert s2 s3 s4 s5 s9 s10; refine kp6 hs rfl ?_; intro s2 s3 s4 s5 s9 s10
       revert s11; refine kp1 hs rfl ?_; intro s11
       clear s50
       replace s4 := PxS.other (later e_w21 s4) hc (by omega)
       replace s5 := PxS.other (later e_w21 s5) hc (by omega)
       replace s9 := hu _ _ _ (later e_w21 s9)
       replace s10 := OwnBA.other (later e_w21 s10) hc (by omega)
       replace e_w := e_w.below (Nat.le_refl _) hb
       clear e_w21
       replace s11 := anyw (w2 := w27) s11
       replace m21 := m21.tr hs rfl
       clear hu hs hc hb
       refine wpList_nil ?_
       refine blk_normal ?_
       refine exit_then ?_
       refine wp_reg 59 [[(11, none)], [(46, some 0)], [(47, some 1)]] [?b28_0, ?b28_1, ?b28_1] mixed (by kernel_rfl) (by kernel_rfl) hr ?t28 ?o28 ?_
       case o28 =>
        refine oc0 (fun A W hx hf => ?_) ?_
        exact ok_movE (a0 := a27) (r0 hf)
        refine oc0 (fun A W hx hf => ?_) ?_
        exact ok_addI (p1 s11 hx (q0 ?b28_0 A W 46 hf)) (ec A (.int .i64 1)) (by omega)
        refine oc0 (fun A W hx hf => ?_) ?_
        exact ok_assign (q0 ?b28_1 A W 47 hf)
        exact OpsOk.nil
       case t28 => exact inferInstance
       clear hr; intro a29 w29 x hr hd hs
       revert s2 s3 s4 s5 s9 s10; refine kp6 hs rfl ?_; intro s2 s3 s4 s5 s9 s10
       clear s11
       have s11 := fa ?b28_1 a29 w29 11 (hd 2 11 rfl)
       replace e_w := e_w.trans x
       have e_w27 := x
       replace m21 := m21.tr hs rfl
       clear hd hs x
       refine exit_then ?_
       refine ⟨(fun (i : Nat) (m : List UInt8) => m.length - i) (i + 1) (m.set i 0), ?_, ?_⟩
       · (try dsimp only); simp; omega
       refine ⟨i + 1, m.set i 0, rfl, hr, m21, e_w, (by simp [hm]), ?_, ?_, ?_, ?_, ?_⟩
       · first | exact (later e_w27 s4) | exact Is.int (later e_w27 s4) (by first | omega | simp) | exact Is.bool (later e_w27 s4) (by first | omega | simp)
       · first | exact (later e_w27 s5) | exact Is.int (later e_w27 s5) (by first | omega | simp) | exact Is.bool (later e_w27 s5) (by first | omega | simp)
       · first | exact (later e_w27 s9) | exact Is.int (later e_w27 s9) (by first | omega | simp) | exact Is.bool (later e_w27 s9) (by first | omega | simp)
       · first | exact (later e_w27 s10) | exact Is.int (later e_w27 s10) (by first | omega | simp) | exact Is.bool (later e_w27 s10) (by first | omega | simp)
       · first | exact s11 | exact Is.int s11 (by first | omega | simp) | exact Is.bool s11 (by first | omega | simp)
     · skip
       skip
       refine wp_exit ?_
       refine then_exit ?_
       refine then_exit ?_
       refine blk_exit ?_
       refine exit_then ?_
       refine wp_seq ?_
       refine wp_reg 59 [[(10, none)], [(4, none)], [(5, none)], [(2, none)], [(54, some 3)], [(3, none)], [(52, some 1), (53, some 2), (55, some 4), (56, some 5)], [(51, some 0), (57, some 6)], [(58, some 7)]] [?b30_0, ?b30_1, ?b30_2, ?b30_3, ?b30_4, ?b30_5, ?b30_6, ?b30_7, ?b30_7] mixed (by kernel_rfl) (by kernel_rfl) hr ?t30 ?o30 ?_
       case o30 =>
        refine oc0 (fun A W hx hf => ?_) ?_
        exact ok_movE (a0 := a23) (r0 hf)
        refine oc0 (fun A W hx hf => ?_) ?_
        exact ok_loadAggS 2 Try.underlying35 rfl size35 (o2 s4 e_w21 hx (r0 hf)) rfl
        refine oc0 (fun A W hx hf => ?_) ?_
        exact ok_loadAggS 2 Try.underlying35 rfl size35 (o2 s5 e_w21 hx (r0 hf)) rfl
        refine oc0 (fun A W hx hf => ?_) ?_
        exact ok_movE (a0 := a23) (r0 hf)
        refine oc0 (fun A W hx hf => ?_) ?_
        exact ok_call1 body16 (c_proto (p2 s2 e_w hx (q0 ?b30_3 A W 54 hf)))
        refine oc0 (fun A W hx hf => ?_) ?_
        exact ok_movE (a0 := a23) (r0 hf)
        refine oc0 (fun A W hx hf => ?_) ?_
        exact ok_call4 body20 (c_r10Fill (Is.conv (q0 ?b30_1 A W 52 hf) (adr_seg Sa)) (Is.conv (q1 ?b30_2 A W 53 hf) (adr_seg Da)) (q2 ?b30_4 A W 55 hf) (p2 s3 e_w hx (q3 ?b30_5 A W 56 hf)) (by assumption) (by assumption) (by assumption) (by omega) hx.size)
        refine oc0 (fun A W hx hf => ?_) ?_
        exact ok_call2 body18 (c_Same (OwnBA.bs (p2 s10 e_w21 hx (q0 ?b30_0 A W 51 hf))) (OwnB.bs (q1 ?b30_6 A W 57 hf)))
        refine oc0 (fun A W hx hf => ?_) ?_
        exact ok_assign (q0 ?b30_7 A W 58 hf)
        exact OpsOk.nil
       case t30 => exact inferInstance
       clear hr; intro a31 w31 x hr hd hs
       have z_w_w23 := e_w.size
       have z_w21_w23 := e_w21.size
       clear s2 s3 s4 s5 s9 s10 s11 s45
       have s8 := fa ?b30_7 a31 w31 8 (hd 8 8 rfl)
       replace e_w := e_w.trans x
       clear e_w21
       clear hd hs x
       refine exit_then ?_
       refine wp_ret ?_
       refine ret_tmp Try.results8 hr e_w ?_
       first | with_reducible exact s8 | exact Is.bool s8 (by simp)

end Go.Proofs.Yteccaejdgefdpaa
