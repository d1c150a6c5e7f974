import Derived.Test.YtnlmppannjebfaaA13
import Derived.Test.YtnlmppannjebfaaC13e
import Derived.Test.YtnlmppannjebfaaC07
import Derived.Test.YtnlmppannjebfaaC06
import Derived.Test.YtnlmppannjebfaaE13
namespace Go.Proofs.Ytnlmppannjebfaa
open Go.RowKit
set_option linter.unusedVariables false
set_option maxRecDepth 4000
def D_law_TunnelBack_0 : List Tmp := [15, 16, 53, 54, 55, 56, 57, 58, 59, 60, 61, 62, 63]
set_option maxHeartbeats 1000000 in
theorem law_TunnelBack {x0 x1 x2 x3 x4 x5 : Value} {w : World} {l m : List UInt8} {Sa Da Ca Ea : Adr} (h0 : (Bs l) x0 w) (h1 : (Is (AdrV Sa)) x1 w) (h2 : (Is (AdrV Da)) x2 w) (h3 : (Is (AdrV Ca)) x3 w) (h4 : (Is (AdrV Ea)) x4 w) (h5 : (Bs m) x5 w) (hA : Sa.b.length = 16) (hD : Da.b.length = 16) (hC : Ca.b.length = 16) (hE : Ea.b.length = 16) :
    Calls Try.prog 5 #[x0, x1, x2, x3, x4, x5] w (Ret (Is (.bool true)) w) := by
 have hlen := Bs.len_le h0
 have hlen5 := Bs.len_le h5
 refine enter Try.func5 rfl Try.ntmps5 (k := 6) rfl (by decide) (fun a0 hr hargs => ?_)
 have s0 := sarg h0 (hargs 0 (by decide))
 have s1 := sarg h1 (hargs 1 (by decide))
 have s2 := sarg h2 (hargs 2 (by decide))
 have s3 := sarg h3 (hargs 3 (by decide))
 have s4 := sarg h4 (hargs 4 (by decide))
 have s5 := sarg h5 (hargs 5 (by decide))
 clear hargs
 refine wp_seq ?_
 refine wp_reg 133 [[(1, none)], [(2, none)], [(3, none)], [(4, none)], []] [?b1_0, ?b1_1, ?b1_2, ?b1_3, ?b1_4] mixed hr ?t1 ?o1 ?_
 case o1 =>
  refine oc0 (fun A W hx hf => ?_) ?_
  exact ok_boxS [[.bool Sa.six], Sa.b.map byteV] [1, 16] (Is.conv (o1 s1 hx (r0 hf)) (adr_seg Sa).symm) (by simp [*]) hx.size
  refine oc0 (fun A W hx hf => ?_) ?_
  exact ok_boxS [[.bool Da.six], Da.b.map byteV] [1, 16] (Is.conv (o1 s2 hx (r0 hf)) (adr_seg Da).symm) (by simp [*]) hx.size
  refine oc0 (fun A W hx hf => ?_) ?_
  exact ok_boxS [[.bool Ca.six], Ca.b.map byteV] [1, 16] (Is.conv (o1 s3 hx (r0 hf)) (adr_seg Ca).symm) (by simp [*]) hx.size
  refine oc0 (fun A W hx hf => ?_) ?_
  exact ok_boxS [[.bool Ea.six], Ea.b.map byteV] [1, 16] (Is.conv (o1 s4 hx (r0 hf)) (adr_seg Ea).symm) (by simp [*]) hx.size
  refine oc0 (fun A W hx hf => ?_) ?_
  exact ok_assignc
  exact OpsOk.nil
 case t1 => exact inferInstance
 clear hr; intro a2 w2 x hr hd hs
 revert s5; revert s0; refine kp2 hs rfl ?_; intro s0 s5
 clear s1 s2 s3 s4
 have s7 := fa ?b1_0 a2 w2 7 (hd 0 7 rfl)
 have s8 := fa ?b1_1 a2 w2 8 (hd 1 8 rfl)
 have s9 := fa ?b1_2 a2 w2 9 (hd 2 9 rfl)
 have s10 := fa ?b1_3 a2 w2 10 (hd 3 10 rfl)
 obtain ⟨g2_7, q2_7⟩ := PxN.at s7; clear s7; have n2_7 := PxS.lt q2_7
 have s7 := q2_7; clear q2_7
 obtain ⟨g2_8, q2_8⟩ := PxN.at s8; clear s8; have n2_8 := PxS.lt q2_8
 have s8 := q2_8; clear q2_8
 obtain ⟨g2_9, q2_9⟩ := PxN.at s9; clear s9; have n2_9 := PxS.lt q2_9
 have s9 := q2_9; clear q2_9
 obtain ⟨g2_10, q2_10⟩ := PxN.at s10; clear s10; have n2_10 := PxS.lt q2_10
 have s10 := q2_10; clear q2_10
 have e_w := x
 clear hd hs x
 refine exit_then ?_
 refine wp_seq ?_
 refine wp_seq ?_
 refine wp_reg 133 [[], [(28, some 0)], [(29, some 1)], [(0, none), (30, some 2)], [(31, some 3), (30, some 2)], [(32, some 4), (30, some 2)], [(30, some 2), (33, some 5)], [(34, some 6)], [(5, none), (35, some 7)], [(36, some 8), (35, some 7)], [(37, some 9), (35, some 7)], [(35, some 7), (38, some 10)]] [?b3_0, ?b3_1, ?b3_1, ?b3_3, ?b3_4, ?b3_5, ?b3_6, ?b3_6, ?b3_8, ?b3_9, ?b3_10, ?b3_11] mixed hr ?t3 ?o3 ?_
 case o3 =>
  refine oc0 (fun A W hx hf => ?_) ?_
  exact ok_call0 body9 (c_awake13 )
  refine oc0 (fun A W hx hf => ?_) ?_
  exact ok_not (q0 ?b3_0 A W 28 hf)
  refine oc0 (fun A W hx hf => ?_) ?_
  exact ok_move (q0 ?b3_1 A W 29 hf)
  refine ocg 30 ?_ (fun A W hx hf => ?_) ?_
  rfl
  exact gd_f (q1 ?b3_1 A W 30 hf) (fun hc => ok_movE (a0 := a2) (r0 hf))
  refine ocg 30 ?_ (fun A W hx hf => ?_) ?_
  rfl
  exact gd_f (q1 ?b3_1 A W 30 hf) (fun hc => ok_len_bs Try.underlying22 (p2 s0 e_w hx (G.get (q0 ?b3_3 A W 31 hf) hc)))
  refine ocg 30 ?_ (fun A W hx hf => ?_) ?_
  rfl
  exact gd_f (q1 ?b3_1 A W 30 hf) (fun hc => ok_gtr (G.get (q0 ?b3_4 A W 32 hf) hc) (ec A (.int .i64 3000)))
  refine oc0 (fun A W hx hf => ?_) ?_
  exact ok_or (q0 ?b3_1 A W 30 hf) (q1 ?b3_5 A W 33 hf)
  refine oc0 (fun A W hx hf => ?_) ?_
  exact ok_move (q0 ?b3_6 A W 34 hf)
  refine ocg 35 ?_ (fun A W hx hf => ?_) ?_
  rfl
  exact gd_f (q1 ?b3_6 A W 35 hf) (fun hc => ok_movE (a0 := a2) (r0 hf))
  refine ocg 35 ?_ (fun A W hx hf => ?_) ?_
  rfl
  exact gd_f (q1 ?b3_6 A W 35 hf) (fun hc => ok_len_bs Try.underlying22 (p2 s5 e_w hx (G.get (q0 ?b3_8 A W 36 hf) hc)))
  refine ocg 35 ?_ (fun A W hx hf => ?_) ?_
  rfl
  exact gd_f (q1 ?b3_6 A W 35 hf) (fun hc => ok_gtr (G.get (q0 ?b3_9 A W 37 hf) hc) (ec A (.int .i64 300)))
  refine oc0 (fun A W hx hf => ?_) ?_
  exact ok_or (q0 ?b3_6 A W 35 hf) (q1 ?b3_10 A W 38 hf)
  exact OpsOk.nil
 case t3 => exact inferInstance
 clear hr; intro a4 w4 x hr hd hs
 revert s10; revert s9; revert s8; revert s7; revert s5; revert s0; refine kp6 hs rfl ?_; intro s0 s5 s7 s8 s9 s10
 have s39 := fa ?b3_11 a4 w4 39 (hd 11 39 rfl)
 replace e_w := e_w.trans x
 have e_w2 := x
 clear hd hs x
 refine exit_then ?_
 refine wp_cond_split (show _ = _ from s39) (fun hg => ?_) (fun hg => ?_)
 ·
  skip
  refine wp_seq ?_
  refine wp_reg 133 [[], [(40, some 0)]] [?b6_0, ?b6_0] mixed hr ?t6 ?o6 ?_
  case o6 =>
   refine oc0 (fun A W hx hf => ?_) ?_
   exact ok_call0 body9 (c_awake13 )
   refine oc0 (fun A W hx hf => ?_) ?_
   exact ok_assign (q0 ?b6_0 A W 40 hf)
   exact OpsOk.nil
  case t6 => exact inferInstance
  clear hr; intro a7 w7 x hr hd hs
  clear s0 s5 s7 s8 s9 s10 s39
  have s12 := fa ?b6_0 a7 w7 12 (hd 1 12 rfl)
  replace e_w := e_w.trans x
  clear e_w2
  clear hd hs x
  refine exit_then ?_
  refine wp_ret ?_
  refine then_ret ?_
  refine ret_tmp Try.results5 hr e_w ?_
  first | with_reducible exact s12 | exact Is.bool s12 (by rw [hxe]; rfl) | exact Is.bool s12 (by rw [hw1]; rfl) | exact Is.bool s12 (by simp [hcl9, hok])
 ·
  have hg9 : l.length ≤ 3000 ∧ m.length ≤ 300 := by simp at hg; omega
  obtain ⟨hl, hm9⟩ := hg9
  refine wp_skip ?_
  refine exit_then ?_
  refine wp_seq ?_
  refine wp_reg 133 [[(0, none)], [(7, none)], [(8, none)], [(42, some 0), (43, some 1), (44, some 2)], [(45, some 3)], [(41, some 4)], [(41, some 4)], [(46, some 5)], [(47, some 6)]] [?b8_0, ?b8_1, ?b8_2, ?b8_3, ?b8_3, ?b8_5, ?b8_6, ?b8_5, ?b8_6] mixed hr ?t8 ?o8 ?_
  case o8 =>
   refine oc0 (fun A W hx hf => ?_) ?_
   exact ok_movE (a0 := a4) (r0 hf)
   refine oc0 (fun A W hx hf => ?_) ?_
   exact ok_loadAggS 2 Try.underlying25 rfl size25 (o2 s7 e_w2 hx (r0 hf)) rfl
   refine oc0 (fun A W hx hf => ?_) ?_
   exact ok_loadAggS 2 Try.underlying25 rfl size25 (o2 s8 e_w2 hx (r0 hf)) rfl
   refine oc0 (fun A W hx hf => ?_) ?_
   exact ok_call3 body10 (c_tWrap (p2 s0 e_w hx (q0 ?b8_0 A W 42 hf)) (Is.conv (q1 ?b8_1 A W 43 hf) (adr_seg Sa)) (Is.conv (q2 ?b8_2 A W 44 hf) (adr_seg Da)) (by exact hA) (by exact hD) (by omega) hx.size)
   refine oc0 (fun A W hx hf => ?_) ?_
   exact ok_move (q0 ?b8_3 A W 45 hf)
   refine oc0 (fun A W hx hf => ?_) ?_
   exact ok_ext0 (q0 ?b8_3 A W 41 hf)
   refine oc0 (fun A W hx hf => ?_) ?_
   exact ok_ext1 (q0 ?b8_3 A W 41 hf)
   refine oc0 (fun A W hx hf => ?_) ?_
   exact ok_assign (q0 ?b8_5 A W 46 hf)
   refine oc0 (fun A W hx hf => ?_) ?_
   exact ok_assign (q0 ?b8_6 A W 47 hf)
   exact OpsOk.nil
  case t8 => exact inferInstance
  clear hr; intro a9 w9 x hr hd hs
  have z_w_w4 := e_w.size
  have z_w2_w4 := e_w2.size
  have l9_7 := PxS.lt (later e_w2 s7)
  have l9_8 := PxS.lt (later e_w2 s8)
  have l9_9 := PxS.lt (later e_w2 s9)
  have l9_10 := PxS.lt (later e_w2 s10)
  revert s10; revert s9; revert s5; revert s0; refine kp4 hs rfl ?_; intro s0 s5 s9 s10
  clear s7 s8 s39
  have s13 := fa ?b8_5 a9 w9 13 (hd 7 13 rfl)
  have s14 := fa ?b8_6 a9 w9 14 (hd 8 14 rfl)
  obtain ⟨g9_13, q9_13⟩ := OwnB.at s13; clear s13; have n9_13 := OwnBA.lt q9_13
  replace q9_13 := OwnBA.mono q9_13 e_w.size
  have s13 := q9_13; clear q9_13
  replace e_w := e_w.trans x
  replace e_w2 := e_w2.trans x
  clear hd hs x
  refine exit_then ?_
  refine wp_seq ?_
  refine wp_seq ?_
  refine wp_reg 133 [[(14, none)], [(48, some 0)]] [?b10_0, ?b10_1] mixed hr ?t10 ?o10 ?_
  case o10 =>
   refine oc0 (fun A W hx hf => ?_) ?_
   exact ok_movE (a0 := a9) (r0 hf)
   refine oc0 (fun A W hx hf => ?_) ?_
   exact ok_neq (p1 s14 hx (q0 ?b10_0 A W 48 hf)) (ec A (.int .i64 0))
   exact OpsOk.nil
  case t10 => exact inferInstance
  clear hr; intro a11 w11 x hr hd hs
  revert s13; revert s10; revert s9; revert s5; revert s0; refine kp5 hs rfl ?_; intro s0 s5 s9 s10 s13
  clear s14
  have s49 := fa ?b10_1 a11 w11 49 (hd 1 49 rfl)
  replace e_w := e_w.trans x
  replace e_w2 := e_w2.trans x
  have e_w9 := x
  clear hd hs x
  refine exit_then ?_
  refine wp_cond_split (show _ = _ from s49) (fun he => ?_) (fun he => ?_)
  ·
   have he : (wrapR l Sa Da).2 ≠ 0 := by simpa using he
   have hxe := wrap_no he
   refine wp_seq ?_
   refine wp_reg 133 [[(13, none)], [(50, some 0)], [(51, some 1)], [(52, some 2)]] [?b13_0, ?b13_1, ?b13_2, ?b13_2] mixed hr ?t13 ?o13 ?_
   case o13 =>
    refine oc0 (fun A W hx hf => ?_) ?_
    exact ok_movE (a0 := a11) (r0 hf)
    refine oc0 (fun A W hx hf => ?_) ?_
    exact ok_len_bs Try.underlying22 (OwnBA.bs (p2 s13 e_w9 hx (q0 ?b13_0 A W 50 hf)))
    refine oc0 (fun A W hx hf => ?_) ?_
    exact ok_eql (q0 ?b13_1 A W 51 hf) (ec A (.int .i64 0))
    refine oc0 (fun A W hx hf => ?_) ?_
    exact ok_assign (q0 ?b13_2 A W 52 hf)
    exact OpsOk.nil
   case t13 => exact inferInstance
   clear hr; intro a14 w14 x hr hd hs
   clear s0 s5 s9 s10 s13 s49
   have s12 := fa ?b13_2 a14 w14 12 (hd 3 12 rfl)
   replace e_w := e_w.trans x
   clear e_w2
   clear e_w9
   clear hd hs x
   refine exit_then ?_
   refine wp_ret ?_
   refine then_ret ?_
   refine ret_tmp Try.results5 hr e_w ?_
   first | with_reducible exact s12 | exact Is.bool s12 (by rw [hxe]; rfl) | exact Is.bool s12 (by rw [hw1]; rfl) | exact Is.bool s12 (by simp [hcl9, hok])
  ·
   have he : (wrapR l Sa Da).2 = 0 := by simpa using he
   obtain ⟨e1, e2, e3, e4, e5, e6⟩ := wrap_cut hA hD he m
   have hwb := wrap_back hA hD he []
   rw [List.append_nil] at hwb
   have hok := (wrap_ok he).1
   have h09 := cutN_ok hok
   obtain ⟨y1, y2, y3, y4⟩ := cut_bd l h09
   have y5 : (cutL l).at' = (cutA l : Int) := y1.symm
   have y6 := cut_tot h09
   have hcn := cutN_net hok
   have hwl := wrap_len (l := l) hA hD
   have hcl9 : (linkRead l).2 = 0 := h09
   refine wp_skip ?_
   refine exit_then ?_
   refine wp_seq ?_
   refine wp_cut (fun A W => Fr 133 A ∧ Same D_law_TunnelBack_0 a11 A ∧ Ext w W ∧ (OwnBA g9_13 w.heap.size 5 (wrapR l Sa Da).1) (A.eval (.tmp 13)) W ∧ (Bs (wrapR ((wrapR l Sa Da).1 ++ m) Ca Ea).1) (A.eval (.tmp 15)) W ∧ (Is (.int .i64 (wrapR ((wrapR l Sa Da).1 ++ m) Ca Ea).2)) (A.eval (.tmp 16)) W) ?cut15 ?_
   case cut15 =>
    have m15 : Same D_law_TunnelBack_0 a11 a11 := Same.rfl
    refine wp_anyH_start (fun W => Below w.heap.size w W ∧ BlkS g2_9 [1, 16] _ W ∧ BlkS g2_10 [1, 16] _ W) mixed (fun w' x => ⟨(e_w.trans x), PxS.blkS (later (e_w2.trans x) s9), PxS.blkS (later (e_w2.trans x) s10)⟩) (fun w16 x _ => ?_)
    show wpAnyH _ _ _ _ _ 13 _ _ _
    replace e_w := e_w.trans x
    replace e_w2 := e_w2.trans x
    replace e_w9 := e_w9.trans x
    have e_w11 := x
    clear x
    refine anyH_op (i := 1) hr rfl (by decide) (by kernel_rfl) (fun _ _ _ _ h => h) (yh (py_of (ok_move (later e_w9 s13)) (pv_move))) ⟨e_w, PxS.blkS (later e_w2 s9), PxS.blkS (later e_w2 s10)⟩ ?_; clear hr; intro a17 hr hd hs
    revert s13; revert s10; revert s9; revert s5; revert s0; refine kp5 hs rfl ?_; intro s0 s5 s9 s10 s13
    clear s49
    have s55 := hd
    replace m15 := m15.tr hs rfl
    clear hd hs
    refine anyH_op (i := 3) hr rfl (by decide) (by kernel_rfl) (fun _ _ _ _ h => h) (yh (py_of (ok_move (show AtW w _ _ _ from s5)) (pv_move))) ⟨e_w, PxS.blkS (later e_w2 s9), PxS.blkS (later e_w2 s10)⟩ ?_; clear hr; intro a18 hr hd hs
    revert s55; revert s13; revert s10; revert s9; revert s5; revert s0; refine kp6 hs rfl ?_; intro s0 s5 s9 s10 s13 s55
    have s57 := AtW.base hd
    replace m15 := m15.tr hs rfl
    clear hd hs
    refine anyH_op (i := 5) hr rfl (by decide) (by kernel_rfl) (fun _ _ _ _ h => h) (yh_loadAgS 2 Try.underlying25 rfl size25 (later e_w2 s9) (fun W hW => hW.2.1) rfl) ⟨e_w, PxS.blkS (later e_w2 s9), PxS.blkS (later e_w2 s10)⟩ ?_; clear hr; intro a19 hr hd hs
    revert s55; revert s13; revert s10; revert s9; revert s5; revert s0; refine kp6 hs rfl ?_; intro s0 s5 s9 s10 s13 s55
    revert s57; refine kp1 hs rfl ?_; intro s57
    have s59 := hd
    replace m15 := m15.tr hs rfl
    clear hd hs
    refine anyH_op (i := 6) hr rfl (by decide) (by kernel_rfl) (fun _ _ _ _ h => h) (yh_loadAgS 2 Try.underlying25 rfl size25 (later e_w2 s10) (fun W hW => hW.2.2) rfl) ⟨e_w, PxS.blkS (later e_w2 s9), PxS.blkS (later e_w2 s10)⟩ ?_; clear hr; intro a20 hr hd hs
    revert s55; revert s13; revert s10; revert s9; revert s5; revert s0; refine kp6 hs rfl ?_; intro s0 s5 s9 s10 s13 s55
    revert s59; revert s57; refine kp2 hs rfl ?_; intro s57 s59
    have s60 := hd
    replace m15 := m15.tr hs rfl
    clear hd hs
    refine anyH_br1 (i := 0) (by kernel_rfl) rfl ?_
    ·
     have l21_9 := PxS.lt (later e_w2 s9)
     have l21_10 := PxS.lt (later e_w2 s10)
     have l21_13 := OwnBA.lt (later e_w9 s13)
     have l21_55 := OwnBA.lt s55
     refine wl_op hr (ok_ownBs [] [] Try.underlying22 size5 zero5 rfl rfl (by decide) (Nat.le_refl _) (PartsOk.nil)) inferInstance ?_; clear hr; intro a21 w21 x hr hd hs
     revert s55; revert s13; revert s10; revert s9; revert s5; revert s0; refine kp6 hs rfl ?_; intro s0 s5 s9 s10 s13 s55
     revert s60; revert s59; revert s57; refine kp3 hs rfl ?_; intro s57 s59 s60
     have s54 := hd 54 rfl (by decide)
     obtain ⟨g21_54, q21_54⟩ := OwnB.at s54; clear s54; have n21_54 := OwnBA.lt q21_54
     replace q21_54 := OwnBA.mono q21_54 e_w.size
     have s54 := q21_54; clear q21_54
     replace e_w := e_w.trans x
     replace e_w2 := e_w2.trans x
     replace e_w9 := e_w9.trans x
     clear e_w11
     have e_w16 := x
     replace m15 := m15.tr hs rfl
     clear hd hs x
     refine qn_done ⟨e_w, PxS.blkS (later e_w2 s9), PxS.blkS (later e_w2 s10)⟩ ?_
     refine anyH_br1 (i := 2) (by kernel_rfl) rfl ?_
     ·
      have l22 := OwnBA.lt s54
      have l22_9 := PxS.lt (later e_w2 s9)
      have l22_10 := PxS.lt (later e_w2 s10)
      have l22_13 := OwnBA.lt (later e_w9 s13)
      refine wl_append_bsA hr (by decide) Try.underlying22 info5 rfl s54 (OwnBA.bs (later e_w16 s55)) e_w.size (by first | (simp; done) | (simp; omega)) ?_; clear hr; intro g22 a22 w22 hg22 hc hr hd hs
      have hb := hc.below e_w.size l22.1
      revert s57; revert s13; revert s10; revert s9; revert s5; revert s0; refine kp6 hs rfl ?_; intro s0 s5 s9 s10 s13 s57
      revert s60; revert s59; refine kp2 hs rfl ?_; intro s59 s60
      clear s55 s54
      replace s9 := PxS.other (later e_w2 s9) hc (by omega)
      replace s10 := PxS.other (later e_w2 s10) hc (by omega)
      replace s13 := OwnBA.other (later e_w9 s13) hc (by omega)
      have s56 := hd
      replace e_w := e_w.below (Nat.le_refl _) hb
      clear e_w2
      clear e_w9
      clear e_w16
      replace s59 := anyw (w2 := w22) s59
      replace s60 := anyw (w2 := w22) s60
      replace m15 := m15.tr hs rfl
      clear hd hs hb hc
      refine qn_done ⟨e_w, PxS.blkS s9, PxS.blkS s10⟩ ?_
      refine anyH_br1 (i := 4) (by kernel_rfl) rfl ?_
      ·
       have l23 := OwnBA.lt s56
       have l23_9 := PxS.lt s9
       have l23_10 := PxS.lt s10
       have l23_13 := OwnBA.lt s13
       refine wl_append_bsA hr (by decide) Try.underlying22 info5 rfl s56 (later e_w s57) e_w.size (by first | (simp; done) | (simp; omega)) ?_; clear hr; intro g23 a23 w23 hg23 hc hr hd hs
       have hb := hc.below e_w.size l23.1
       revert s59; revert s13; revert s10; revert s9; revert s5; revert s0; refine kp6 hs rfl ?_; intro s0 s5 s9 s10 s13 s59
       revert s60; refine kp1 hs rfl ?_; intro s60
       clear s57 s56
       replace s9 := PxS.other s9 hc (by omega)
       replace s10 := PxS.other s10 hc (by omega)
       replace s13 := OwnBA.other s13 hc (by omega)
       have s58 := hd
       replace e_w := e_w.below (Nat.le_refl _) hb
       replace s59 := anyw (w2 := w23) s59
       replace s60 := anyw (w2 := w23) s60
       replace m15 := m15.tr hs rfl
       clear hd hs hb hc
       refine qn_done ⟨e_w, PxS.blkS s9, PxS.blkS s10⟩ ?_
       refine anyH_br1 (i := 7) (by kernel_rfl) rfl ?_
       ·
        refine wl_op hr (ok_call3 body10 (c_tWrap (OwnBA.bs s58) (Is.conv s59 (adr_seg Ca)) (Is.conv s60 (adr_seg Ea)) (by exact hC) (by exact hE) (by simp; omega) (Nat.le_refl _))) inferInstance ?_; clear hr; intro a24 w24 x hr hd hs
        revert s13; revert s10; revert s9; revert s5; revert s0; refine kp5 hs rfl ?_; intro s0 s5 s9 s10 s13
        clear s58 s59 s60
        have s61 := hd 61 rfl (by decide)
        replace e_w := e_w.trans x
        have e_w23 := x
        replace m15 := m15.tr hs rfl
        clear hd hs x
        refine qn_done ⟨e_w, PxS.blkS (later e_w23 s9), PxS.blkS (later e_w23 s10)⟩ ?_
        refine anyH_op (i := 8) hr rfl (by decide) (by kernel_rfl) (fun _ _ _ _ h => h) (yh (py_of (ok_move s61) (pv_move))) ⟨e_w, PxS.blkS (later e_w23 s9), PxS.blkS (later e_w23 s10)⟩ ?_; clear hr; intro a25 hr hd hs
        revert s13; revert s10; revert s9; revert s5; revert s0; refine kp5 hs rfl ?_; intro s0 s5 s9 s10 s13
        clear s61
        have s53 := hd
        replace m15 := m15.tr hs rfl
        clear hd hs
        refine anyH_op (i := 9) hr rfl (by decide) (by kernel_rfl) (fun _ _ _ _ h => h) (yh (py_of (ok_ext0 s53) (pv_ext2 rfl s53))) ⟨e_w, PxS.blkS (later e_w23 s9), PxS.blkS (later e_w23 s10)⟩ ?_; clear hr; intro a26 hr hd hs
        revert s53; revert s13; revert s10; revert s9; revert s5; revert s0; refine kp6 hs rfl ?_; intro s0 s5 s9 s10 s13 s53
        have s62 := hd
        replace m15 := m15.tr hs rfl
        clear hd hs
        refine anyH_op (i := 10) hr rfl (by decide) (by kernel_rfl) (fun _ _ _ _ h => h) (yh (py_of (ok_ext1 s53) (pv_ext2 rfl s53))) ⟨e_w, PxS.blkS (later e_w23 s9), PxS.blkS (later e_w23 s10)⟩ ?_; clear hr; intro a27 hr hd hs
        revert s62; revert s13; revert s10; revert s9; revert s5; revert s0; refine kp6 hs rfl ?_; intro s0 s5 s9 s10 s13 s62
        clear s53
        have s63 := hd
        replace m15 := m15.tr hs rfl
        clear hd hs
        refine anyH_op (i := 11) hr rfl (by decide) (by kernel_rfl) (fun _ _ _ _ h => h) (yh (py_of (ok_assign s62) (pv_assign))) ⟨e_w, PxS.blkS (later e_w23 s9), PxS.blkS (later e_w23 s10)⟩ ?_; clear hr; intro a28 hr hd hs
        revert s63; revert s13; revert s10; revert s9; revert s5; revert s0; refine kp6 hs rfl ?_; intro s0 s5 s9 s10 s13 s63
        clear s62
        have s15 := hd
        replace m15 := m15.tr hs rfl
        clear hd hs
        refine anyH_op (i := 12) hr rfl (by decide) (by kernel_rfl) (fun _ _ _ _ h => h) (yh (py_of (ok_assign s63) (pv_assign))) ⟨e_w, PxS.blkS (later e_w23 s9), PxS.blkS (later e_w23 s10)⟩ ?_; clear hr; intro a29 hr hd hs
        revert s15; revert s13; revert s10; revert s9; revert s5; revert s0; refine kp6 hs rfl ?_; intro s0 s5 s9 s10 s13 s15
        clear s63
        have s16 := hd
        replace m15 := m15.tr hs rfl
        clear hd hs
        refine anyH_done (by kernel_rfl) ?_
        refine exit_then ?_
        refine ⟨hr, m15, e_w, ?_, ?_, ?_⟩
        · exact (later e_w23 s13)
        · exact OwnB.bs s15
        · exact s16
   intro a15 w15 hI
   clear e_w
   clear e_w2
   clear e_w9
   clear hr; obtain ⟨hr, hs, e_w, u13, u15, u16⟩ := hI
   revert s5; revert s0; refine kp2 hs rfl ?_; intro s0 s5
   clear s9 s10 s13 s49
   have s13 := u13; clear u13
   have s15 := u15; clear u15
   have s16 := u16; clear u16
   clear hs
   refine wp_seq ?_
   refine wp_seq ?_
   refine wp_reg 133 [[(16, none)], [(64, some 0)]] [?b30_0, ?b30_1] mixed hr ?t30 ?o30 ?_
   case o30 =>
    refine oc0 (fun A W hx hf => ?_) ?_
    exact ok_movE (a0 := a15) (r0 hf)
    refine oc0 (fun A W hx hf => ?_) ?_
    exact ok_neq (p1 s16 hx (q0 ?b30_0 A W 64 hf)) (ec A (.int .i64 0))
    exact OpsOk.nil
   case t30 => exact inferInstance
   clear hr; intro a31 w31 x hr hd hs
   revert s16; revert s15; revert s13; revert s5; revert s0; refine kp5 hs rfl ?_; intro s0 s5 s13 s15 s16
   have s65 := fa ?b30_1 a31 w31 65 (hd 1 65 rfl)
   replace e_w := e_w.trans x
   have e_w15 := x
   clear hd hs x
   refine exit_then ?_
   refine wp_cond_split (show _ = _ from s65) (fun hf => ?_) (fun hf => ?_)
   ·
    have hf : (wrapR ((wrapR l Sa Da).1 ++ m) Ca Ea).2 ≠ 0 := by simpa using hf
    have hw1 := wrap_no1 hf (by rw [e3]) (by rw [e3]; show (headW Sa : Int) + (cutN l).total ≤ 60000; omega)
    refine wp_seq ?_
    refine wp_reg 133 [[(16, none)], [(66, some 0)], [(67, some 1)], [(15, none), (68, some 2)], [(69, some 3), (68, some 2)], [(70, some 4), (68, some 2)], [(68, some 2), (71, some 5)], [(72, some 6)]] [?b33_0, ?b33_1, ?b33_1, ?b33_3, ?b33_4, ?b33_5, ?b33_6, ?b33_6] mixed hr ?t33 ?o33 ?_
    case o33 =>
     refine oc0 (fun A W hx hf => ?_) ?_
     exact ok_movE (a0 := a31) (r0 hf)
     refine oc0 (fun A W hx hf => ?_) ?_
     exact ok_eql (p2 s16 e_w15 hx (q0 ?b33_0 A W 66 hf)) (ec A (.int .i64 1))
     refine oc0 (fun A W hx hf => ?_) ?_
     exact ok_move (q0 ?b33_1 A W 67 hf)
     refine ocg 68 ?_ (fun A W hx hf => ?_) ?_
     rfl
     exact gd_t (q1 ?b33_1 A W 68 hf) (fun hc => ok_movE (a0 := a31) (r0 hf))
     refine ocg 68 ?_ (fun A W hx hf => ?_) ?_
     rfl
     exact gd_t (q1 ?b33_1 A W 68 hf) (fun hc => ok_len_bs Try.underlying22 (p2 s15 e_w15 hx (G.get (q0 ?b33_3 A W 69 hf) hc)))
     refine ocg 68 ?_ (fun A W hx hf => ?_) ?_
     rfl
     exact gd_t (q1 ?b33_1 A W 68 hf) (fun hc => ok_eql (G.get (q0 ?b33_4 A W 70 hf) hc) (ec A (.int .i64 0)))
     refine oc0 (fun A W hx hf => ?_) ?_
     exact ok_and (q0 ?b33_1 A W 68 hf) (q1 ?b33_5 A W 71 hf)
     refine oc0 (fun A W hx hf => ?_) ?_
     exact ok_assign (q0 ?b33_6 A W 72 hf)
     exact OpsOk.nil
    case t33 => exact inferInstance
    clear hr; intro a34 w34 x hr hd hs
    clear s0 s5 s13 s15 s16 s65
    have s12 := fa ?b33_6 a34 w34 12 (hd 7 12 rfl)
    replace e_w := e_w.trans x
    clear e_w15
    clear hd hs x
    refine exit_then ?_
    refine wp_ret ?_
    refine then_ret ?_
    refine ret_tmp Try.results5 hr e_w ?_
    first | with_reducible exact s12 | exact Is.bool s12 (by rw [hxe]; rfl) | exact Is.bool s12 (by rw [hw1]; rfl) | exact Is.bool s12 (by simp [hcl9, hok])
   ·
    have hf : (wrapR ((wrapR l Sa Da).1 ++ m) Ca Ea).2 = 0 := by simpa using hf
    have hz := wrap_back hC hE hf m
    rw [wrap_whole hA hD he m] at hz
    have hyl := wrap_len (l := ((wrapR l Sa Da).1 ++ m)) hC hE
    rw [List.length_append] at hyl
    refine wp_skip ?_
    refine exit_then ?_
    refine wp_seq ?_
    refine wp_reg_pre (l := [_, _]) (rest := [_, _, _, _, _, _, _, _, _]) 133 [[], [(15, none)]] [?b35_0, ?b35_1] hr ?t35 ?o35 ?_
    case o35 =>
     refine oc0 (fun A W hx hf => ?_) ?_
     exact ok_ownBs [] [] Try.underlying22 size5 zero5 rfl rfl (by decide) hx.size (PartsOk.nil)
     refine oc0 (fun A W hx hf => ?_) ?_
     exact ok_movE (a0 := a31) (r0 hf)
     exact OpsOk.nil
    case t35 => exact inferInstance
    clear hr; intro a36 w36 x hr hd hs
    have z_w_w31 := e_w.size
    have z_w15_w31 := e_w15.size
    have l36_13 := OwnBA.lt (later e_w15 s13)
    have u75 := mv s15 (fa ?b35_1 a36 w36 75 (hd 1 75 rfl))
    revert s13; revert s5; revert s0; refine kp3 hs rfl ?_; intro s0 s5 s13
    clear s15 s16 s65
    have s75 := u75; clear u75
    have s74 := fa ?b35_0 a36 w36 74 (hd 0 74 rfl)
    obtain ⟨g36_74, q36_74⟩ := OwnB.at s74; clear s74; have n36_74 := OwnBA.lt q36_74
    replace q36_74 := OwnBA.mono q36_74 e_w.size
    have s74 := q36_74; clear q36_74
    replace e_w := e_w.trans x
    replace e_w15 := e_w15.trans x
    clear hd hs x
    have l37 := OwnBA.lt s74
    have l37_13 := OwnBA.lt (later e_w15 s13)
    refine wl_append_bsA hr (by decide) Try.underlying22 info5 rfl s74 (later e_w15 s75) e_w.size (by first | (simp; done) | (simp; omega)) ?_; clear hr; intro g37 a37 w37 hg37 hc hr hd hs
    have hb := hc.below e_w.size l37.1
    revert s13; revert s5; revert s0; refine kp3 hs rfl ?_; intro s0 s5 s13
    clear s75 s74
    replace s13 := OwnBA.other (later e_w15 s13) hc (by omega)
    have s76 := hd
    replace e_w := e_w.below (Nat.le_refl _) hb
    clear e_w15
    clear hd hs hb hc
    refine wl_op hr (ok_move (show AtW w _ _ _ from s5)) inferInstance ?_; clear hr; intro a38 w38 x hr hd hs
    revert s76; revert s13; revert s0; refine kp3 hs rfl ?_; intro s0 s13 s76
    clear s5
    have s77 := AtW.base (hd 77 rfl (by decide))
    replace e_w := e_w.trans x
    have e_w37 := x
    clear hd hs x
    have l39 := OwnBA.lt (later e_w37 s76)
    have l39_13 := OwnBA.lt (later e_w37 s13)
    refine wl_append_bsA hr (by decide) Try.underlying22 info5 rfl (later e_w37 s76) (later e_w s77) e_w.size (by first | (simp; done) | (simp; omega)) ?_; clear hr; intro g39 a39 w39 hg39 hc hr hd hs
    have hb := hc.below e_w.size l39.1
    revert s13; revert s0; refine kp2 hs rfl ?_; intro s0 s13
    clear s76 s77
    replace s13 := OwnBA.other (later e_w37 s13) hc (by omega)
    have s78 := hd
    replace e_w := e_w.below (Nat.le_refl _) hb
    clear e_w37
    clear hd hs hb hc
    have z_w_w39 := e_w.size
    refine wl_op hr (ok_call1 body13 (c_tUnwrap (OwnBA.bs s78) (by simp; omega) (Nat.le_refl _))) inferInstance ?_; clear hr; intro a40 w40 x hr hd hs
    revert s13; revert s0; refine kp2 hs rfl ?_; intro s0 s13
    clear s78
    have s79 := hd 79 rfl (by decide)
    replace e_w := e_w.trans x
    have e_w39 := x
    clear hd hs x
    refine wl_op hr (ok_move s79) inferInstance ?_; clear hr; intro a41 w41 x hr hd hs
    revert s13; revert s0; refine kp2 hs rfl ?_; intro s0 s13
    clear s79
    have s73 := hd 73 rfl (by decide)
    replace e_w := e_w.trans x
    replace e_w39 := e_w39.trans x
    clear hd hs x
    refine wl_op hr (ok_ext0 s73) inferInstance ?_; clear hr; intro a42 w42 x hr hd hs
    revert s73; revert s13; revert s0; refine kp3 hs rfl ?_; intro s0 s13 s73
    have s80 := hd 80 rfl (by decide)
    replace e_w := e_w.trans x
    replace e_w39 := e_w39.trans x
    have e_w41 := x
    clear hd hs x
    refine wl_op hr (ok_ext1 (later e_w41 s73)) inferInstance ?_; clear hr; intro a43 w43 x hr hd hs
    revert s80; revert s13; revert s0; refine kp3 hs rfl ?_; intro s0 s13 s80
    clear s73
    have s81 := hd 81 rfl (by decide)
    replace e_w := e_w.trans x
    replace e_w39 := e_w39.trans x
    clear e_w41
    have e_w42 := x
    clear hd hs x
    refine wl_op hr (ok_assign (later e_w42 s80)) inferInstance ?_; clear hr; intro a44 w44 x hr hd hs
    revert s81; revert s13; revert s0; refine kp3 hs rfl ?_; intro s0 s13 s81
    clear s80
    have s17 := hd 17 rfl (by decide)
    replace e_w := e_w.trans x
    replace e_w39 := e_w39.trans x
    clear e_w42
    have e_w43 := x
    clear hd hs x
    refine wl_op hr (ok_assign (later e_w43 s81)) inferInstance ?_; clear hr; intro a45 w45 x hr hd hs
    revert s17; revert s13; revert s0; refine kp3 hs rfl ?_; intro s0 s13 s17
    clear s81
    have s18 := hd 18 rfl (by decide)
    replace e_w := e_w.trans x
    replace e_w39 := e_w39.trans x
    clear e_w43
    have e_w44 := x
    clear hd hs x
    refine wpList_nil ?_
    have lb46_13 := OwnBA.lt s13
    obtain ⟨g46_17, q46_17⟩ := OwnB.at s17; clear s17; have n46_17 := OwnBA.lt q46_17; replace q46_17 := OwnBA.mono q46_17 z_w_w39; have s17 := q46_17; clear q46_17
    replace s17 := OwnBA.cast s17 (show _ = (wrapR l Sa Da).1 from by rw [List.nil_append, hz])
    replace s18 := Is.int s18 (show _ = (0 : Int) from by rw [List.nil_append, hz]; rfl)
    refine exit_then ?_
    refine wp_seq ?_
    refine wp_reg 133 [[(17, none)], [(83, some 0)], [(84, some 1)], [(82, some 2)], [(82, some 2)], [(85, some 3)], [(86, some 4)]] [?b47_0, ?b47_1, ?b47_1, ?b47_3, ?b47_4, ?b47_3, ?b47_4] mixed hr ?t47 ?o47 ?_
    case o47 =>
     refine oc0 (fun A W hx hf => ?_) ?_
     exact ok_movE (a0 := a45) (r0 hf)
     refine oc0 (fun A W hx hf => ?_) ?_
     exact ok_call1 body13 (c_tUnwrap (OwnBA.bs (p2 s17 e_w44 hx (q0 ?b47_0 A W 83 hf))) (by omega) hx.size)
     refine oc0 (fun A W hx hf => ?_) ?_
     exact ok_move (q0 ?b47_1 A W 84 hf)
     refine oc0 (fun A W hx hf => ?_) ?_
     exact ok_ext0 (q0 ?b47_1 A W 82 hf)
     refine oc0 (fun A W hx hf => ?_) ?_
     exact ok_ext1 (q0 ?b47_1 A W 82 hf)
     refine oc0 (fun A W hx hf => ?_) ?_
     exact ok_assign (q0 ?b47_3 A W 85 hf)
     refine oc0 (fun A W hx hf => ?_) ?_
     exact ok_assign (q0 ?b47_4 A W 86 hf)
     exact OpsOk.nil
    case t47 => exact inferInstance
    clear hr; intro a48 w48 x hr hd hs
    have z_w_w45 := e_w.size
    have z_w39_w45 := e_w39.size
    have z_w44_w45 := e_w44.size
    have l48_13 := OwnBA.lt (later e_w39 s13)
    have l48_17 := OwnBA.lt (later e_w44 s17)
    revert s18; revert s17; revert s13; revert s0; refine kp4 hs rfl ?_; intro s0 s13 s17 s18
    have s19 := fa ?b47_3 a48 w48 19 (hd 5 19 rfl)
    have s20 := fa ?b47_4 a48 w48 20 (hd 6 20 rfl)
    obtain ⟨g48_19, q48_19⟩ := OwnB.at s19; clear s19; have n48_19 := OwnBA.lt q48_19
    replace q48_19 := OwnBA.mono q48_19 e_w.size
    have s19 := q48_19; clear q48_19
    replace e_w := e_w.trans x
    replace e_w39 := e_w39.trans x
    replace e_w44 := e_w44.trans x
    have e_w45 := x
    clear hd hs x
    replace s19 := OwnBA.cast s19 (show _ = l.take (cutA l + (cutN l).total.toNat) from by rw [hwb])
    replace s20 := Is.int s20 (show _ = (0 : Int) from by rw [hwb]; rfl)
    refine exit_then ?_
    refine wp_seq ?_
    refine wp_reg_pre (l := [_, _, _, _, _]) (rest := [_, _, _]) 133 [[(0, none)], [(88, some 0)], [(89, some 1)], [(87, some 2)], [(87, some 2)]] [?b49_0, ?b49_1, ?b49_1, ?b49_3, ?b49_4] hr ?t49 ?o49 ?_
    case o49 =>
     refine oc0 (fun A W hx hf => ?_) ?_
     exact ok_movE (a0 := a48) (r0 hf)
     refine oc0 (fun A W hx hf => ?_) ?_
     exact ok_call1 body15 (c_r7Read (p2 s0 e_w hx (q0 ?b49_0 A W 88 hf)) (by omega) hx.size)
     refine oc0 (fun A W hx hf => ?_) ?_
     exact ok_move (q0 ?b49_1 A W 89 hf)
     refine oc0 (fun A W hx hf => ?_) ?_
     exact ok_ext0 (q0 ?b49_1 A W 87 hf)
     refine oc0 (fun A W hx hf => ?_) ?_
     exact ok_ext1 (q0 ?b49_1 A W 87 hf)
     exact OpsOk.nil
    case t49 => exact inferInstance
    clear hr; intro a50 w50 x hr hd hs
    have l50_13 := OwnBA.lt (later e_w39 s13)
    have l50_17 := OwnBA.lt (later e_w44 s17)
    have l50_19 := OwnBA.lt s19
    revert s20; revert s19; revert s18; revert s17; revert s13; revert s0; refine kp6 hs rfl ?_; intro s0 s13 s17 s18 s19 s20
    have s90 := fa ?b49_3 a50 w50 90 (hd 3 90 rfl)
    have s91 := fa ?b49_4 a50 w50 91 (hd 4 91 rfl)
    obtain ⟨sv90, s90, gL⟩ := LinkO.open s90; obtain ⟨g50_90, gL⟩ := OwnR.at gL; have n50_90 := OwnRA.lt gL
    replace gL := OwnRA.mono gL e_w.size
    replace e_w := e_w.trans x
    replace e_w39 := e_w39.trans x
    replace e_w44 := e_w44.trans x
    replace e_w45 := e_w45.trans x
    have e_w48 := x
    clear hd hs x
    have l51_13 := OwnBA.lt (later e_w39 s13)
    have l51_17 := OwnBA.lt (later e_w44 s17)
    have l51_19 := OwnBA.lt (later e_w48 s19)
    have l51_gL := OwnRA.lt gL
    refine wl_op hr (ok_allocS (lnkS link0 (.slice none 0 0)) [6, 6, 1, 1, 1] zerov41 (by rfl) (by rfl) (Nat.le_refl _)) inferInstance ?_; clear hr; intro a51 w51 x hr hd hs
    revert s20; revert s19; revert s18; revert s17; revert s13; revert s0; refine kp6 hs rfl ?_; intro s0 s13 s17 s18 s19 s20
    revert s90; revert s91; refine kp2 hs rfl ?_; intro s91 s90
    have s21 := hd 21 rfl (by decide)
    obtain ⟨g51_21, q51_21⟩ := PxN.at s21; clear s21; have n51_21 := PxS.lt q51_21
    replace q51_21 := PxS.mono q51_21 e_w.size
    have s21 := q51_21; clear q51_21
    replace e_w := e_w.trans x
    replace e_w39 := e_w39.trans x
    replace e_w44 := e_w44.trans x
    replace e_w45 := e_w45.trans x
    replace e_w48 := e_w48.trans x
    have e_w50 := x
    clear hd hs x
    have z52 := PxS.lt s21
    have l52 := (show (g51_21 = 0 ∨ w.heap.size < g51_21) ∧ True from ⟨by omega, trivial⟩)
    have l52_13 := OwnBA.lt (later e_w39 s13)
    have l52_17 := OwnBA.lt (later e_w44 s17)
    have l52_19 := OwnBA.lt (later e_w48 s19)
    have l52_gL := OwnRA.lt (later e_w50 gL)
    refine wl_storeSm (lnkS (cutL l) sv90) hr size41 s21 (later e_w50 s90) (by exact lnkS_lens (cutL_ok _)) (by exact lnk_one (rw_one (OwnRA.rw (later e_w50 gL)))) rfl ?_; clear hr; intro a52 w52 hc hu hr hs
    have hb : Below w.heap.size w51 w52 := hc.below e_w.size l52.1
    revert s20; revert s19; revert s18; revert s17; revert s13; revert s0; refine kp6 hs rfl ?_; intro s0 s13 s17 s18 s19 s20
    revert s21; revert s91; refine kp2 hs rfl ?_; intro s91 s21
    clear s90
    replace s13 := OwnBA.other (later e_w39 s13) hc (by omega)
    replace s17 := OwnBA.other (later e_w44 s17) hc (by omega)
    replace s19 := OwnBA.other (later e_w48 s19) hc (by omega)
    replace s21 := hu _ _ _ s21
    try simp only [List.set_cons_zero, List.set_cons_succ, lnkS] at s21
    replace gL := OwnRA.other (later e_w50 gL) hc (by omega)
    replace e_w := e_w.below (Nat.le_refl _) hb
    clear e_w39
    clear e_w44
    clear e_w45
    clear e_w48
    clear e_w50
    replace s18 := anyw (w2 := w52) s18
    replace s20 := anyw (w2 := w52) s20
    replace s91 := anyw (w2 := w52) s91
    clear hu hs hc hb
    refine wl_op hr (ok_assign s91) inferInstance ?_; clear hr; intro a53 w53 x hr hd hs
    revert s18; revert s21; revert s19; revert s17; revert s13; revert s0; refine kp6 hs rfl ?_; intro s0 s13 s17 s19 s21 s18
    revert s20; refine kp1 hs rfl ?_; intro s20
    clear s91
    have s22 := hd 22 rfl (by decide)
    replace e_w := e_w.trans x
    have e_w52 := x
    clear hd hs x
    refine wpList_nil ?_
    refine exit_then ?_
    refine wp_seq ?_
    refine wp_reg 133 [[(21, none)], [(93, some 0)], [(0, none)], [(21, none)], [(96, some 3)], [(95, some 2), (97, some 4)], [(94, some 1), (98, some 5)], [(99, some 6)], [(92, some 7)], [(92, some 7)], [(92, some 7)], [(92, some 7)], [(92, some 7)], [(100, some 8)], [(101, some 9)], [(102, some 10)], [(103, some 11)], [(104, some 12)]] [?b54_0, ?b54_1, ?b54_2, ?b54_3, ?b54_4, ?b54_5, ?b54_6, ?b54_6, ?b54_8, ?b54_9, ?b54_10, ?b54_11, ?b54_12, ?b54_8, ?b54_9, ?b54_10, ?b54_11, ?b54_12] mixed hr ?t54 ?o54 ?_
    case o54 =>
     refine oc0 (fun A W hx hf => ?_) ?_
     exact ok_fieldS 3 Try.underlying41 (k := 3) rfl size3 rfl (o2 s21 e_w52 hx (r0 hf)) rfl
     refine oc0 (fun A W hx hf => ?_) ?_
     exact ok_loadS Try.underlying3 rfl (q0 ?b54_0 A W 93 hf) rfl
     refine oc0 (fun A W hx hf => ?_) ?_
     exact ok_movE (a0 := a53) (r0 hf)
     refine oc0 (fun A W hx hf => ?_) ?_
     exact ok_fieldS 4 Try.underlying41 (k := 4) rfl size3 rfl (o2 s21 e_w52 hx (r0 hf)) rfl
     refine oc0 (fun A W hx hf => ?_) ?_
     exact ok_loadS Try.underlying3 rfl (q0 ?b54_3 A W 96 hf) rfl
     refine oc0 (fun A W hx hf => ?_) ?_
     exact okW_slice_lo (cutA l) Try.underlying22 size5 (sarg s0 (show _ = _ from (q0 ?b54_2 A W 95 hf))) (Is.int (q1 ?b54_4 A W 97 hf) (by exact y5)) (by omega)
     refine oc0 (fun A W hx hf => ?_) ?_
     exact ok_call2 body16 (c_r13Net (q0 ?b54_1 A W 94 hf) (AtW.now (q1 ?b54_5 A W 98 hf) (e_w.trans hx)) (by simp; omega))
     refine oc0 (fun A W hx hf => ?_) ?_
     exact ok_move (q0 ?b54_6 A W 99 hf)
     refine oc0 (fun A W hx hf => ?_) ?_
     exact ok_ext5_0 (q0 ?b54_6 A W 92 hf)
     refine oc0 (fun A W hx hf => ?_) ?_
     exact ok_ext5_1 (q0 ?b54_6 A W 92 hf)
     refine oc0 (fun A W hx hf => ?_) ?_
     exact ok_ext5_2 (q0 ?b54_6 A W 92 hf)
     refine oc0 (fun A W hx hf => ?_) ?_
     exact ok_ext5_3 (q0 ?b54_6 A W 92 hf)
     refine oc0 (fun A W hx hf => ?_) ?_
     exact ok_ext5_4 (q0 ?b54_6 A W 92 hf)
     refine oc0 (fun A W hx hf => ?_) ?_
     exact ok_assign (q0 ?b54_8 A W 100 hf)
     refine oc0 (fun A W hx hf => ?_) ?_
     exact ok_assign (q0 ?b54_9 A W 101 hf)
     refine oc0 (fun A W hx hf => ?_) ?_
     exact ok_assign (q0 ?b54_10 A W 102 hf)
     refine oc0 (fun A W hx hf => ?_) ?_
     exact ok_assign (q0 ?b54_11 A W 103 hf)
     refine oc0 (fun A W hx hf => ?_) ?_
     exact ok_assign (q0 ?b54_12 A W 104 hf)
     exact OpsOk.nil
    case t54 => exact inferInstance
    clear hr; intro a55 w55 x hr hd hs
    revert s18; revert s21; revert s19; revert s17; revert s13; revert s0; refine kp6 hs rfl ?_; intro s0 s13 s17 s19 s21 s18
    revert s22; revert s20; refine kp2 hs rfl ?_; intro s20 s22
    have s24 := fa ?b54_9 a55 w55 24 (hd 14 24 rfl)
    have s27 := fa ?b54_12 a55 w55 27 (hd 17 27 rfl)
    replace e_w := e_w.trans x
    replace e_w52 := e_w52.trans x
    have e_w53 := x
    clear hd hs x
    replace s24 := Is.conv s24 (show _ = Value.int .i64 (cutN l).total from by rw [hcn])
    replace s27 := Is.conv s27 (show _ = Value.bool (cutN l).ok from by rw [hcn])
    refine exit_then ?_
    refine wp_seq ?_
    refine wp_reg 133 [[(22, none)], [(105, some 0)], [(106, some 1)], [(27, none), (107, some 2)], [(107, some 2), (108, some 3)], [(109, some 4)], [(18, none), (110, some 5)], [(111, some 6), (110, some 5)], [(110, some 5), (112, some 7)], [(113, some 8)], [(20, none), (114, some 9)], [(115, some 10), (114, some 9)], [(114, some 9), (116, some 11)], [(117, some 12)], [(17, none), (118, some 13)], [(13, none), (118, some 13)], [(119, some 14), (120, some 15), (118, some 13)], [(118, some 13), (121, some 16)], [(122, some 17)], [(19, none), (123, some 18)], [(0, none), (123, some 18)], [(21, none), (123, some 18)], [(126, some 21), (123, some 18)], [(24, none), (123, some 18)], [(127, some 22), (128, some 23), (123, some 18)], [(125, some 20), (129, some 24), (123, some 18)], [(124, some 19), (130, some 25), (123, some 18)], [(123, some 18), (131, some 26)], [(132, some 27)]] [?b56_0, ?b56_1, ?b56_1, ?b56_3, ?b56_4, ?b56_4, ?b56_6, ?b56_7, ?b56_8, ?b56_8, ?b56_10, ?b56_11, ?b56_12, ?b56_12, ?b56_14, ?b56_15, ?b56_16, ?b56_17, ?b56_17, ?b56_19, ?b56_20, ?b56_21, ?b56_22, ?b56_23, ?b56_24, ?b56_25, ?b56_26, ?b56_27, ?b56_27] mixed hr ?t56 ?o56 ?_
    case o56 =>
     refine oc0 (fun A W hx hf => ?_) ?_
     exact ok_movE (a0 := a55) (r0 hf)
     refine oc0 (fun A W hx hf => ?_) ?_
     exact ok_eql (p2 s22 e_w53 hx (q0 ?b56_0 A W 105 hf)) (ec A (.int .i64 0))
     refine oc0 (fun A W hx hf => ?_) ?_
     exact ok_move (q0 ?b56_1 A W 106 hf)
     refine ocg 107 ?_ (fun A W hx hf => ?_) ?_
     rfl
     exact gd_t (q1 ?b56_1 A W 107 hf) (fun hc => ok_movE (a0 := a55) (r0 hf))
     refine oc0 (fun A W hx hf => ?_) ?_
     exact ok_and (q0 ?b56_1 A W 107 hf) (G.al (later hx s27) (q1 ?b56_3 A W 108 hf))
     refine oc0 (fun A W hx hf => ?_) ?_
     exact ok_move (q0 ?b56_4 A W 109 hf)
     refine ocg 110 ?_ (fun A W hx hf => ?_) ?_
     rfl
     exact gd_t (q1 ?b56_4 A W 110 hf) (fun hc => ok_movE (a0 := a55) (r0 hf))
     refine ocg 110 ?_ (fun A W hx hf => ?_) ?_
     rfl
     exact gd_t (q1 ?b56_4 A W 110 hf) (fun hc => ok_eql (p2 s18 e_w52 hx (G.get (q0 ?b56_6 A W 111 hf) hc)) (ec A (.int .i64 0)))
     refine oc0 (fun A W hx hf => ?_) ?_
     exact ok_and (q0 ?b56_4 A W 110 hf) (q1 ?b56_7 A W 112 hf)
     refine oc0 (fun A W hx hf => ?_) ?_
     exact ok_move (q0 ?b56_8 A W 113 hf)
     refine ocg 114 ?_ (fun A W hx hf => ?_) ?_
     rfl
     exact gd_t (q1 ?b56_8 A W 114 hf) (fun hc => ok_movE (a0 := a55) (r0 hf))
     refine ocg 114 ?_ (fun A W hx hf => ?_) ?_
     rfl
     exact gd_t (q1 ?b56_8 A W 114 hf) (fun hc => ok_eql (p2 s20 e_w52 hx (G.get (q0 ?b56_10 A W 115 hf) hc)) (ec A (.int .i64 0)))
     refine oc0 (fun A W hx hf => ?_) ?_
     exact ok_and (q0 ?b56_8 A W 114 hf) (q1 ?b56_11 A W 116 hf)
     refine oc0 (fun A W hx hf => ?_) ?_
     exact ok_move (q0 ?b56_12 A W 117 hf)
     refine ocg 118 ?_ (fun A W hx hf => ?_) ?_
     rfl
     exact gd_t (q1 ?b56_12 A W 118 hf) (fun hc => ok_movE (a0 := a55) (r0 hf))
     refine ocg 118 ?_ (fun A W hx hf => ?_) ?_
     rfl
     exact gd_t (q1 ?b56_12 A W 118 hf) (fun hc => ok_movE (a0 := a55) (r0 hf))
     refine ocg 118 ?_ (fun A W hx hf => ?_) ?_
     rfl
     exact gd_t (q2 ?b56_12 A W 118 hf) (fun hc => ok_call2 body12 (c_Same (OwnBA.bs (p2 s17 e_w52 hx (G.get (q0 ?b56_14 A W 119 hf) hc))) (OwnBA.bs (p2 s13 e_w52 hx (G.get (q1 ?b56_15 A W 120 hf) hc)))))
     refine oc0 (fun A W hx hf => ?_) ?_
     exact ok_and (q0 ?b56_12 A W 118 hf) (q1 ?b56_16 A W 121 hf)
     refine oc0 (fun A W hx hf => ?_) ?_
     exact ok_move (q0 ?b56_17 A W 122 hf)
     refine ocg 123 ?_ (fun A W hx hf => ?_) ?_
     rfl
     exact gd_t (q1 ?b56_17 A W 123 hf) (fun hc => ok_movE (a0 := a55) (r0 hf))
     refine ocg 123 ?_ (fun A W hx hf => ?_) ?_
     rfl
     exact gd_t (q1 ?b56_17 A W 123 hf) (fun hc => ok_movE (a0 := a55) (r0 hf))
     refine ocg 123 ?_ (fun A W hx hf => ?_) ?_
     rfl
     exact gd_t (q1 ?b56_17 A W 123 hf) (fun hc => ok_fieldS 4 Try.underlying41 (k := 4) rfl size3 rfl (o2 s21 e_w52 hx (r0 hf)) rfl)
     refine ocg 123 ?_ (fun A W hx hf => ?_) ?_
     rfl
     exact gd_t (q1 ?b56_17 A W 123 hf) (fun hc => ok_loadS Try.underlying3 rfl (G.get (q0 ?b56_21 A W 126 hf) hc) rfl)
     refine ocg 123 ?_ (fun A W hx hf => ?_) ?_
     rfl
     exact gd_t (q1 ?b56_17 A W 123 hf) (fun hc => ok_movE (a0 := a55) (r0 hf))
     refine ocg 123 ?_ (fun A W hx hf => ?_) ?_
     rfl
     exact gd_t (q2 ?b56_17 A W 123 hf) (fun hc => ok_addI (G.get (q0 ?b56_22 A W 127 hf) hc) (p1 s24 hx (G.get (q1 ?b56_23 A W 128 hf) hc)) (by show (-9223372036854775808 : Int) ≤ (cutL l).at' + (cutN l).total ∧ (cutL l).at' + (cutN l).total ≤ 9223372036854775807; omega))
     refine ocg 123 ?_ (fun A W hx hf => ?_) ?_
     rfl
     exact gd_t (q2 ?b56_17 A W 123 hf) (fun hc => ok_slice_hi (cutA l + (cutN l).total.toNat) Try.underlying22 size5 (p2 s0 e_w hx (G.get (q0 ?b56_20 A W 125 hf) hc)) (Is.int (G.get (q1 ?b56_24 A W 129 hf) hc) (by show (cutL l).at' + (cutN l).total = _; omega)) (by omega))
     refine ocg 123 ?_ (fun A W hx hf => ?_) ?_
     rfl
     exact gd_t (q2 ?b56_17 A W 123 hf) (fun hc => ok_call2 body12 (c_Same (OwnBA.bs (p2 s19 e_w52 hx (G.get (q0 ?b56_19 A W 124 hf) hc))) (G.get (q1 ?b56_25 A W 130 hf) hc)))
     refine oc0 (fun A W hx hf => ?_) ?_
     exact ok_and (q0 ?b56_17 A W 123 hf) (q1 ?b56_26 A W 131 hf)
     refine oc0 (fun A W hx hf => ?_) ?_
     exact ok_assign (q0 ?b56_27 A W 132 hf)
     exact OpsOk.nil
    case t56 => repeat (first | exact stb_nil | refine stb_cons ?_)
    clear hr; intro a57 w57 x hr hd hs
    clear s0 s13 s17 s19 s21 s18 s20 s22 s24 s27
    have s12 := fa ?b56_27 a57 w57 12 (hd 28 12 rfl)
    replace e_w := e_w.trans x
    replace e_w52 := e_w52.trans x
    clear e_w53
    clear hd hs x
    refine exit_then ?_
    refine wp_ret ?_
    refine ret_tmp Try.results5 hr e_w ?_
    first | with_reducible exact s12 | exact Is.bool s12 (by rw [hxe]; rfl) | exact Is.bool s12 (by rw [hw1]; rfl) | exact Is.bool s12 (by simp [hcl9, hok])

end Go.Proofs.Ytnlmppannjebfaa
