import Derived.Test.YtpjpfmnnefgnbaaC08
import Derived.Test.YtpjpfmnnefgnbaaC09
import Derived.Test.YtpjpfmnnefgnbaaT11
import Derived.Test.YtpjpfmnnefgnbaaC10m
import Derived.Test.YtpjpfmnnefgnbaaC06
import Derived.Test.YtpjpfmnnefgnbaaZA
import Derived.Test.YtpjpfmnnefgnbaaE11
import Derived.Test.YtpjpfmnnefgnbaaC09m
import Derived.Test.YtpjpfmnnefgnbaaC07
namespace Go.Proofs.Ytpjpfmnnefgnbaa
open Go.RowKit
set_option linter.unusedVariables false
set_option linter.unusedSimpArgs false
set_option maxRecDepth 4000
theorem fam_end {Sa Da : Adr} (h6 : (Sa.six || Da.six) = false) : (!([List.drop 4 Sa.b, List.drop 4 Da.b].flatten.any fun c => c != 0)) = famB Sa Da := by
  have h7 : Sa.six = false ∧ Da.six = false := by simpa using h6
  unfold famB
  simp [shortA, h7.1, h7.2]
theorem c_carried {x0 : Value} {w : World} {z : Int} (h0 : (Is (.int .i64 z)) x0 w)  :
    Calls Try.prog 25 #[x0] w (Ret (Is (.bool (carriedB z))) w) := by
 refine enter Try.func25 rfl Try.ntmps25 (k := 1) rfl (by decide) (fun a0 hr hargs => ?_)
 have s0 := sarg h0 (hargs 0 (by decide))
 clear hargs
 refine sq ?_
 refine wp_reg 9 [[]] [?b1_0] mixed hr ?t1 ?o1 ?_
 case o1 =>
  apply oc0; intro A W hx hf
  exact ok_assignc
  exact onn
 case t1 => exact inferInstance
 clear hr; intro a2 w2 x hr hd hs
 revert s0; refine kp1 hs rfl ?_; intro s0
 have e_w := x; clear hd hs x
 refine es ?_
 refine wp_reg 9 [[(0, none)], [(3, some 0)], [(4, some 1)], [(0, none), (5, some 2)], [(6, some 3), (5, some 2)], [(5, some 2), (7, some 4)], [(8, some 5)]] [?b3_0, ?b3_1, ?b3_1, ?b3_3, ?b3_4, ?b3_5, ?b3_5] mixed hr ?t3 ?o3 ?_
 case o3 =>
  apply oc0; intro A W hx hf
  exact ok_movE (a0 := a2) (r0 hf)
  apply oc0; intro A W hx hf
  exact ok_eql (p2 s0 e_w hx (q0 ?b3_0 A W 3 hf)) (ec A (.int .i64 6))
  apply oc0; intro A W hx hf
  exact ok_move (q0 ?b3_1 A W 4 hf)
  refine ocg 5 ?_ (fun A W hx hf => ?_) ?_
  rfl
  exact gd_f (q1 ?b3_1 A W 5 hf) (fun hc => ok_movE (a0 := a2) (r0 hf))
  refine ocg 5 ?_ (fun A W hx hf => ?_) ?_
  rfl
  exact gd_f (q1 ?b3_1 A W 5 hf) (fun hc => ok_eql (p2 s0 e_w hx (G.get (q0 ?b3_3 A W 6 hf) hc)) (ec A (.int .i64 17)))
  apply oc0; intro A W hx hf
  exact ok_or (q0 ?b3_1 A W 5 hf) (q1 ?b3_4 A W 7 hf)
  apply oc0; intro A W hx hf
  exact ok_assign (q0 ?b3_5 A W 8 hf)
  exact onn
 case t3 => exact inferInstance
 clear hr; intro a4 w4 x hr hd hs
 clear s0
 have s2 := fa ?b3_5 a4 w4 2 (hd 6 2 rfl)
 replace e_w := e_w.trans x; clear hd hs x
 refine et ?_
 refine wp_ret ?_
 refine ret_tmp Try.results25 hr e_w ?_
 exact Is.bool s2 rfl

theorem c_pread {x0 x1 : Value} {w : World} {z : Int} {l : List UInt8} (h0 : (Is (.int .i64 z)) x0 w) (h1 : (Bs l) x1 w)  :
    Calls Try.prog 24 #[x0, x1] w (Ret (Tup2 (Is (NetTV (netT z l).1)) (Is (.int .i64 (netT z l).2))) w) := by
 have hlen := Bs.len_le h1
 refine enter Try.func24 rfl Try.ntmps24 (k := 2) rfl (by decide) (fun a0 hr hargs => ?_)
 have s0 := sarg h0 (hargs 0 (by decide))
 have s1 := sarg h1 (hargs 1 (by decide))
 clear hargs
 refine sq ?_
 refine wp_reg 50 [[], []] [?b1_0, ?b1_1] mixed hr ?t1 ?o1 ?_
 case o1 =>
  apply oc0; intro A W hx hf
  exact ok_allocS [(netTS netT0).flatten] [38] zerov60 (by rfl) (by rfl) hx.size
  apply oc0; intro A W hx hf
  exact ok_assignc
  exact onn
 case t1 => exact inferInstance
 clear hr; intro a2 w2 x hr hd hs
 revert s1; revert s0; refine kp2 hs rfl ?_; intro s0 s1
 have s4 := fa ?b1_0 a2 w2 4 (hd 0 4 rfl)
 obtain ⟨g2_4, q2_4⟩ := PxN.at s4; clear s4; have n2_4 := PxS.lt q2_4
 have s4 := q2_4; clear q2_4
 have e_w := x; clear hd hs x
 refine es ?_
 refine sq ?_
 refine wp_reg 50 [[(0, none)], [(10, some 0)]] [?b3_0, ?b3_1] mixed hr ?t3 ?o3 ?_
 case o3 =>
  apply oc0; intro A W hx hf
  exact ok_movE (a0 := a2) (r0 hf)
  apply oc0; intro A W hx hf
  exact ok_eql (p2 s0 e_w hx (q0 ?b3_0 A W 10 hf)) (ec A (.int .i64 2048))
  exact onn
 case t3 => exact inferInstance
 clear hr; intro a4 w4 x hr hd hs
 revert s4; revert s1; refine kp2 hs rfl ?_; intro s1 s4
 clear s0
 have s11 := fa ?b3_1 a4 w4 11 (hd 1 11 rfl)
 replace e_w := e_w.trans x
 have e_w2 := x; clear hd hs x
 refine et ?_
 refine wp_cond_split (show _ = _ from s11) (fun hk => ?_) (fun hk => ?_)
 ·
  have hk : z = 2048 := by simpa using hk
  have hn9 : netT z l = _ := if_pos hk
  refine sq ?_
  refine wp_reg_pre (l := [_, _, _, _, _, _]) (rest := [_, _]) 50 [[(1, none)], [(13, some 0)], [(14, some 1)], [(12, some 2)], [(12, some 2)], []] [?b6_0, ?b6_1, ?b6_1, ?b6_3, ?b6_4, ?b6_5] hr ?t6 ?o6 ?_
  case o6 =>
   apply oc0; intro A W hx hf
   exact ok_movE (a0 := a4) (r0 hf)
   apply oc0; intro A W hx hf
   exact ok_call1 body48 (c_four_Read (p2 s1 e_w hx (q0 ?b6_0 A W 13 hf)))
   apply oc0; intro A W hx hf
   exact ok_move (q0 ?b6_1 A W 14 hf)
   apply oc0; intro A W hx hf
   exact ok_ext0 (q0 ?b6_1 A W 12 hf)
   apply oc0; intro A W hx hf
   exact ok_ext1 (q0 ?b6_1 A W 12 hf)
   apply oc0; intro A W hx hf
   exact ok_allocS (fourS2 four0) [1, 1, 1, 1, 1, 1, 1, 1, 1, 16, 1, 16] zerov71 (by rfl) (by rfl) hx.size
   exact onn
  case t6 => exact inferInstance
  clear hr; intro a7 w7 x hr hd hs
  have z_w_w4 := e_w.size
  have z_w2_w4 := e_w2.size
  have l7_4 := PxS.lt (later e_w2 s4)
  revert s4; refine kp1 hs rfl ?_; intro s4
  clear s1 s11
  have s15 := fa ?b6_3 a7 w7 15 (hd 3 15 rfl)
  have s16 := fa ?b6_4 a7 w7 16 (hd 4 16 rfl)
  have s6 := fa ?b6_5 a7 w7 6 (hd 5 6 rfl)
  obtain ⟨g7_6, q7_6⟩ := PxN.at s6; clear s6; have n7_6 := PxS.lt q7_6
  replace q7_6 := PxS.mono q7_6 e_w.size
  have s6 := q7_6; clear q7_6
  replace e_w := e_w.trans x
  replace e_w2 := e_w2.trans x; clear hd hs x
  have z8 := PxS.lt s6
  have l8 := (show (g7_6 = 0 ∨ w.heap.size < g7_6) ∧ True from ⟨by omega, trivial⟩)
  have l8_4 := PxS.lt (later e_w2 s4)
  refine wl_storeSm (fourS2 (fourRead l).1) hr size71 s6 s15 (by exact fourS2_lens (fourRead_ok _)) (by exact four_one) rfl ?_; clear hr; intro a8 w8 hc hu hr hs
  have hb : Below w.heap.size w7 w8 := hc.below e_w.size l8.1
  revert s6; revert s16; revert s4; refine kp3 hs rfl ?_; intro s4 s16 s6
  clear s15
  replace s4 := PxS.other (later e_w2 s4) hc (by omega)
  replace s6 := hu _ _ _ s6
  try simp only [List.set_cons_zero, List.set_cons_succ, fourS2, sixS2] at s6
  replace e_w := e_w.below (Nat.le_refl _) hb
  clear e_w2
  replace s16 := anyw (w2 := w8) s16
  clear hu hs hc hb
  refine wl_op hr (ok_assign s16) inferInstance ?_; clear hr; intro a9 w9 x hr hd hs
  revert s6; revert s4; refine kp2 hs rfl ?_; intro s4 s6
  clear s16
  have s7 := hd 7 rfl (by decide)
  replace e_w := e_w.trans x
  have e_w8 := x; clear hd hs x
  refine wpList_nil ?_
  refine es ?_
  refine wp_reg_pre (l := [_, _, _, _, _, _, _, _, _, _, _, _, _, _]) (rest := [_, _]) 50 [[(6, none)], [(17, some 0)], [(6, none)], [(19, some 2)], [(6, none)], [(21, some 4)], [(6, none)], [(23, some 6)], [(6, none)], [(25, some 8)], [(6, none)], [(27, some 10)], [(18, some 1), (20, some 3), (22, some 5), (24, some 7), (26, some 9), (28, some 11)], [(7, none)]] [?b10_0, ?b10_1, ?b10_2, ?b10_3, ?b10_4, ?b10_5, ?b10_6, ?b10_7, ?b10_8, ?b10_9, ?b10_10, ?b10_11, ?b10_12, ?b10_13] hr ?t10 ?o10 ?_
  case o10 =>
   apply oc0; intro A W hx hf
   exact ok_fieldS 0 tu71 (k := 0) rfl size3 rfl (o2 s6 e_w8 hx (r0 hf)) rfl
   apply oc0; intro A W hx hf
   exact ok_loadS tu3 rfl (q0 ?b10_0 A W 17 hf) rfl
   apply oc0; intro A W hx hf
   exact ok_fieldS 1 tu71 (k := 1) rfl size3 rfl (o2 s6 e_w8 hx (r0 hf)) rfl
   apply oc0; intro A W hx hf
   exact ok_loadS tu3 rfl (q0 ?b10_2 A W 19 hf) rfl
   apply oc0; intro A W hx hf
   exact ok_fieldS 7 tu71 (k := 7) rfl size3 rfl (o2 s6 e_w8 hx (r0 hf)) rfl
   apply oc0; intro A W hx hf
   exact ok_loadS tu3 rfl (q0 ?b10_4 A W 21 hf) rfl
   apply oc0; intro A W hx hf
   exact ok_fieldS 4 tu71 (k := 4) rfl size4 rfl (o2 s6 e_w8 hx (r0 hf)) rfl
   apply oc0; intro A W hx hf
   exact ok_loadS tu4 rfl (q0 ?b10_6 A W 23 hf) rfl
   apply oc0; intro A W hx hf
   exact ok_fieldS 8 tu71 (k := 8) rfl size26 rfl (o2 s6 e_w8 hx (r0 hf)) rfl
   apply oc0; intro A W hx hf
   exact ok_loadAggS 10 tu26 rfl size26 (q0 ?b10_8 A W 25 hf) rfl
   apply oc0; intro A W hx hf
   exact ok_fieldS 10 tu71 (k := 9) rfl size26 rfl (o2 s6 e_w8 hx (r0 hf)) rfl
   apply oc0; intro A W hx hf
   exact ok_loadAggS 12 tu26 rfl size26 (q0 ?b10_10 A W 27 hf) rfl
   apply oc0; intro A W hx hf
   exact ok_buildS [(0, (.tmp 18)), (1, (.tmp 20)), (2, (.tmp 22)), (3, (.tmp 24)), (4, (.tmp 26)), (5, (.tmp 28))] [(0, _), (1, _), (2, _), (3, _), (4, _), (5, _)] lay60 rfl (PartsC.one (q0 ?b10_1 A W 18 hf) rfl (PartsC.one (q1 ?b10_3 A W 20 hf) rfl (PartsC.one (q2 ?b10_5 A W 22 hf) rfl (PartsC.one (q3 ?b10_7 A W 24 hf) rfl (PartsC.agg (q4 ?b10_9 A W 26 hf) (PartsC.agg (q5 ?b10_11 A W 28 hf) (PartsC.nil))))))) (by simp [(fourRead_ok l).1, (fourRead_ok l).2])
   apply oc0; intro A W hx hf
   exact ok_movE (a0 := a9) (r0 hf)
   exact onn
  case t10 => exact inferInstance
  clear hr; intro a11 w11 x hr hd hs
  have u30 := mv s7 (fa ?b10_13 a11 w11 30 (hd 13 30 rfl))
  revert s4; refine kp1 hs rfl ?_; intro s4
  clear s6 s7
  have s30 := u30; clear u30
  have s29 := fa ?b10_12 a11 w11 29 (hd 12 29 rfl)
  replace e_w := e_w.trans x
  replace e_w8 := e_w8.trans x
  have e_w9 := x; clear hd hs x
  have z12 := PxS.lt (later e_w8 s4)
  have l12 := (show (g2_4 = 0 ∨ w.heap.size < g2_4) ∧ True from ⟨by omega, trivial⟩)
  refine wl_storeSn hr size60 (later e_w8 s4) (Is.conv s29 (show _ = NetTV (netT z l).1 from by rw [hn9]; simp [NetTV, netTS, setAll, adrCells, fourS2])) (by exact netT_len (netT_ok _ _)) (by exact netT_one) rfl ?_; clear hr; intro a12 w12 hc hu hr hs
  have hb : Below w.heap.size w11 w12 := hc.below e_w.size l12.1
  revert s30; revert s4; refine kp2 hs rfl ?_; intro s4 s30
  clear s29
  replace s4 := hu _ _ _ (later e_w8 s4)
  try simp only [List.set_cons_zero, List.set_cons_succ, fourS2, sixS2] at s4
  replace e_w := e_w.below (Nat.le_refl _) hb
  clear e_w8
  clear e_w9
  replace s30 := anyw (w2 := w12) s30
  clear hu hs hc hb
  refine wl_op hr (ok_assign s30) inferInstance ?_; clear hr; intro a13 w13 x hr hd hs
  revert s4; refine kp1 hs rfl ?_; intro s4
  clear s30
  have s5 := hd 5 rfl (by decide)
  replace e_w := e_w.trans x
  have e_w12 := x; clear hd hs x
  refine wpList_nil ?_
  refine et ?_
  refine wp_ret ?_
  refine then_ret ?_
  refine ret_cell_tmp Try.results24 hr tu60 rfl size60 (later e_w12 s4) e_w ?_
  rw [hn9]; exact ⟨_, _, rfl, by rw [← hn9]; rfl, s5⟩
 have hk : z ≠ 2048 := by simpa using hk
 have hn9 : netT z l = _ := if_neg hk
 refine wp_skip ?_
 refine es ?_
 refine wp_reg_pre (l := [_, _, _, _, _, _]) (rest := [_, _]) 50 [[(1, none)], [(32, some 0)], [(33, some 1)], [(31, some 2)], [(31, some 2)], []] [?b14_0, ?b14_1, ?b14_1, ?b14_3, ?b14_4, ?b14_5] hr ?t14 ?o14 ?_
 case o14 =>
  apply oc0; intro A W hx hf
  exact ok_movE (a0 := a4) (r0 hf)
  apply oc0; intro A W hx hf
  exact ok_call1 body49 (c_xRead (p2 s1 e_w hx (q0 ?b14_0 A W 32 hf)))
  apply oc0; intro A W hx hf
  exact ok_move (q0 ?b14_1 A W 33 hf)
  apply oc0; intro A W hx hf
  exact ok_ext0 (q0 ?b14_1 A W 31 hf)
  apply oc0; intro A W hx hf
  exact ok_ext1 (q0 ?b14_1 A W 31 hf)
  apply oc0; intro A W hx hf
  exact ok_allocS (sixS2 six0) [1, 1, 1, 1, 1, 1, 1, 16, 1, 16] zerov75 (by rfl) (by rfl) hx.size
  exact onn
 case t14 => exact inferInstance
 clear hr; intro a15 w15 x hr hd hs
 have z_w_w4 := e_w.size
 have z_w2_w4 := e_w2.size
 have l15_4 := PxS.lt (later e_w2 s4)
 revert s4; refine kp1 hs rfl ?_; intro s4
 clear s1 s11
 have s34 := fa ?b14_3 a15 w15 34 (hd 3 34 rfl)
 have s35 := fa ?b14_4 a15 w15 35 (hd 4 35 rfl)
 have s8 := fa ?b14_5 a15 w15 8 (hd 5 8 rfl)
 obtain ⟨g15_8, q15_8⟩ := PxN.at s8; clear s8; have n15_8 := PxS.lt q15_8
 replace q15_8 := PxS.mono q15_8 e_w.size
 have s8 := q15_8; clear q15_8
 replace e_w := e_w.trans x
 replace e_w2 := e_w2.trans x; clear hd hs x
 have z16 := PxS.lt s8
 have l16 := (show (g15_8 = 0 ∨ w.heap.size < g15_8) ∧ True from ⟨by omega, trivial⟩)
 have l16_4 := PxS.lt (later e_w2 s4)
 refine wl_storeSm (sixS2 (sixRead l).1) hr size75 s8 (Is.conv s34 (show SixV _ = _ from by unfold SixV; rw [six_seg])) (by exact sixS2_lens (sixRead_ok _)) (by rw [six_seg]; exact six_one) rfl ?_; clear hr; intro a16 w16 hc hu hr hs
 have hb : Below w.heap.size w15 w16 := hc.below e_w.size l16.1
 revert s8; revert s35; revert s4; refine kp3 hs rfl ?_; intro s4 s35 s8
 clear s34
 replace s4 := PxS.other (later e_w2 s4) hc (by omega)
 replace s8 := hu _ _ _ s8
 try simp only [List.set_cons_zero, List.set_cons_succ, fourS2, sixS2] at s8
 replace e_w := e_w.below (Nat.le_refl _) hb
 clear e_w2
 replace s35 := anyw (w2 := w16) s35
 clear hu hs hc hb
 refine wl_op hr (ok_assign s35) inferInstance ?_; clear hr; intro a17 w17 x hr hd hs
 revert s8; revert s4; refine kp2 hs rfl ?_; intro s4 s8
 clear s35
 have s9 := hd 9 rfl (by decide)
 replace e_w := e_w.trans x
 have e_w16 := x; clear hd hs x
 refine wpList_nil ?_
 refine es ?_
 refine wp_reg_pre (l := [_, _, _, _, _, _, _, _, _, _, _, _, _, _]) (rest := [_, _]) 50 [[(8, none)], [(36, some 0)], [(8, none)], [(38, some 2)], [(8, none)], [(40, some 4)], [(8, none)], [(42, some 6)], [(8, none)], [(44, some 8)], [(8, none)], [(46, some 10)], [(37, some 1), (39, some 3), (41, some 5), (43, some 7), (45, some 9), (47, some 11)], [(9, none)]] [?b18_0, ?b18_1, ?b18_2, ?b18_3, ?b18_4, ?b18_5, ?b18_6, ?b18_7, ?b18_8, ?b18_9, ?b18_10, ?b18_11, ?b18_12, ?b18_13] hr ?t18 ?o18 ?_
 case o18 =>
  apply oc0; intro A W hx hf
  exact ok_fieldS 0 tu75 (k := 0) rfl size3 rfl (o2 s8 e_w16 hx (r0 hf)) rfl
  apply oc0; intro A W hx hf
  exact ok_loadS tu3 rfl (q0 ?b18_0 A W 36 hf) rfl
  apply oc0; intro A W hx hf
  exact ok_fieldS 1 tu75 (k := 1) rfl size3 rfl (o2 s8 e_w16 hx (r0 hf)) rfl
  apply oc0; intro A W hx hf
  exact ok_loadS tu3 rfl (q0 ?b18_2 A W 38 hf) rfl
  apply oc0; intro A W hx hf
  exact ok_fieldS 5 tu75 (k := 5) rfl size3 rfl (o2 s8 e_w16 hx (r0 hf)) rfl
  apply oc0; intro A W hx hf
  exact ok_loadS tu3 rfl (q0 ?b18_4 A W 40 hf) rfl
  apply oc0; intro A W hx hf
  exact ok_fieldS 3 tu75 (k := 3) rfl size4 rfl (o2 s8 e_w16 hx (r0 hf)) rfl
  apply oc0; intro A W hx hf
  exact ok_loadS tu4 rfl (q0 ?b18_6 A W 42 hf) rfl
  apply oc0; intro A W hx hf
  exact ok_fieldS 6 tu75 (k := 6) rfl size26 rfl (o2 s8 e_w16 hx (r0 hf)) rfl
  apply oc0; intro A W hx hf
  exact ok_loadAggS 8 tu26 rfl size26 (q0 ?b18_8 A W 44 hf) rfl
  apply oc0; intro A W hx hf
  exact ok_fieldS 8 tu75 (k := 7) rfl size26 rfl (o2 s8 e_w16 hx (r0 hf)) rfl
  apply oc0; intro A W hx hf
  exact ok_loadAggS 10 tu26 rfl size26 (q0 ?b18_10 A W 46 hf) rfl
  apply oc0; intro A W hx hf
  exact ok_buildS [(0, (.tmp 37)), (1, (.tmp 39)), (2, (.tmp 41)), (3, (.tmp 43)), (4, (.tmp 45)), (5, (.tmp 47))] [(0, _), (1, _), (2, _), (3, _), (4, _), (5, _)] lay60 rfl (PartsC.one (q0 ?b18_1 A W 37 hf) rfl (PartsC.one (q1 ?b18_3 A W 39 hf) rfl (PartsC.one (q2 ?b18_5 A W 41 hf) rfl (PartsC.one (q3 ?b18_7 A W 43 hf) rfl (PartsC.agg (q4 ?b18_9 A W 45 hf) (PartsC.agg (q5 ?b18_11 A W 47 hf) (PartsC.nil))))))) (by simp [(sixRead_ok l).1, (sixRead_ok l).2])
  apply oc0; intro A W hx hf
  exact ok_movE (a0 := a17) (r0 hf)
  exact onn
 case t18 => exact inferInstance
 clear hr; intro a19 w19 x hr hd hs
 have u49 := mv s9 (fa ?b18_13 a19 w19 49 (hd 13 49 rfl))
 revert s4; refine kp1 hs rfl ?_; intro s4
 clear s8 s9
 have s49 := u49; clear u49
 have s48 := fa ?b18_12 a19 w19 48 (hd 12 48 rfl)
 replace e_w := e_w.trans x
 replace e_w16 := e_w16.trans x
 have e_w17 := x; clear hd hs x
 have z20 := PxS.lt (later e_w16 s4)
 have l20 := (show (g2_4 = 0 ∨ w.heap.size < g2_4) ∧ True from ⟨by omega, trivial⟩)
 refine wl_storeSn hr size60 (later e_w16 s4) (Is.conv s48 (show _ = NetTV (netT z l).1 from by rw [hn9]; simp [NetTV, netTS, setAll, adrCells, sixS2])) (by exact netT_len (netT_ok _ _)) (by exact netT_one) rfl ?_; clear hr; intro a20 w20 hc hu hr hs
 have hb : Below w.heap.size w19 w20 := hc.below e_w.size l20.1
 revert s49; revert s4; refine kp2 hs rfl ?_; intro s4 s49
 clear s48
 replace s4 := hu _ _ _ (later e_w16 s4)
 try simp only [List.set_cons_zero, List.set_cons_succ, fourS2, sixS2] at s4
 replace e_w := e_w.below (Nat.le_refl _) hb
 clear e_w16
 clear e_w17
 replace s49 := anyw (w2 := w20) s49
 clear hu hs hc hb
 refine wl_op hr (ok_assign s49) inferInstance ?_; clear hr; intro a21 w21 x hr hd hs
 revert s4; refine kp1 hs rfl ?_; intro s4
 clear s49
 have s5 := hd 5 rfl (by decide)
 replace e_w := e_w.trans x
 have e_w20 := x; clear hd hs x
 refine wpList_nil ?_
 refine et ?_
 refine wp_ret ?_
 refine ret_cell_tmp Try.results24 hr tu60 rfl size60 (later e_w20 s4) e_w ?_
 rw [hn9]; exact ⟨_, _, rfl, by rw [← hn9]; rfl, s5⟩

theorem c_turn {x0 : Value} {w : World} {T : TupL} (h0 : (Is (TupV T)) x0 w) (hT9 : TupOk T) :
    Calls Try.prog 18 #[x0] w (Ret (Is (TupV (turnT T))) w) := by
 obtain ⟨hs16, hd16⟩ := id hT9
 refine enter Try.func18 rfl Try.ntmps18 (k := 1) rfl (by decide) (fun a0 hr hargs => ?_)
 have s0 := sarg h0 (hargs 0 (by decide))
 clear hargs
 refine sq ?_
 refine wp_reg_pre (l := [_]) (rest := [_]) 14 [[(0, none)]] [?b1_0] hr ?t1 ?o1 ?_
 case o1 =>
  apply oc0; intro A W hx hf
  exact ok_boxS (tupS T) [1, 16, 1, 16, 1, 1, 1] (o1 s0 hx (r0 hf)) (by exact tupS_lens hT9) hx.size
  exact onn
 case t1 => exact inferInstance
 clear hr; intro a2 w2 x hr hd hs
 clear s0
 have s1 := fa ?b1_0 a2 w2 1 (hd 0 1 rfl)
 obtain ⟨g2_1, q2_1⟩ := PxN.at s1; clear s1; have n2_1 := PxS.lt q2_1
 have s1 := q2_1; clear q2_1
 have e_w := x; clear hd hs x
 have l3_1 := PxS.lt s1
 refine wl_op hr (ok_allocS [(tupS tup0).flatten] [37] zerov28 (by rfl) (by rfl) (Nat.le_refl _)) inferInstance ?_; clear hr; intro a3 w3 x hr hd hs
 revert s1; refine kp1 hs rfl ?_; intro s1
 have s2 := hd 2 rfl (by decide)
 obtain ⟨g3_2, q3_2⟩ := PxN.at s2; clear s2; have n3_2 := PxS.lt q3_2
 replace q3_2 := PxS.mono q3_2 e_w.size
 have s2 := q3_2; clear q3_2
 replace e_w := e_w.trans x
 have e_w2 := x; clear hd hs x
 refine wpList_nil ?_
 refine es ?_
 refine wp_reg_pre (l := [_, _, _, _, _, _, _, _, _, _, _]) (rest := [_]) 14 [[(1, none)], [(3, some 0)], [(1, none)], [(5, some 2)], [(1, none)], [(7, some 4)], [(1, none)], [(9, some 6)], [(1, none)], [(11, some 8)], [(4, some 1), (6, some 3), (8, some 5), (10, some 7), (12, some 9)]] [?b4_0, ?b4_1, ?b4_2, ?b4_3, ?b4_4, ?b4_5, ?b4_6, ?b4_7, ?b4_8, ?b4_9, ?b4_10] hr ?t4 ?o4 ?_
 case o4 =>
  apply oc0; intro A W hx hf
  exact ok_fieldS 2 tu28 (k := 1) rfl size26 rfl (o2 s1 e_w2 hx (r0 hf)) rfl
  apply oc0; intro A W hx hf
  exact ok_loadAggS 4 tu26 rfl size26 (q0 ?b4_0 A W 3 hf) rfl
  apply oc0; intro A W hx hf
  exact ok_fieldS 0 tu28 (k := 0) rfl size26 rfl (o2 s1 e_w2 hx (r0 hf)) rfl
  apply oc0; intro A W hx hf
  exact ok_loadAggS 2 tu26 rfl size26 (q0 ?b4_2 A W 5 hf) rfl
  apply oc0; intro A W hx hf
  exact ok_fieldS 4 tu28 (k := 2) rfl size3 rfl (o2 s1 e_w2 hx (r0 hf)) rfl
  apply oc0; intro A W hx hf
  exact ok_loadS tu3 rfl (q0 ?b4_4 A W 7 hf) rfl
  apply oc0; intro A W hx hf
  exact ok_fieldS 6 tu28 (k := 4) rfl size3 rfl (o2 s1 e_w2 hx (r0 hf)) rfl
  apply oc0; intro A W hx hf
  exact ok_loadS tu3 rfl (q0 ?b4_6 A W 9 hf) rfl
  apply oc0; intro A W hx hf
  exact ok_fieldS 5 tu28 (k := 3) rfl size3 rfl (o2 s1 e_w2 hx (r0 hf)) rfl
  apply oc0; intro A W hx hf
  exact ok_loadS tu3 rfl (q0 ?b4_8 A W 11 hf) rfl
  apply oc0; intro A W hx hf
  exact ok_buildS [(0, (.tmp 4)), (1, (.tmp 6)), (2, (.tmp 8)), (3, (.tmp 10)), (4, (.tmp 12))] [(0, _), (1, _), (2, _), (3, _), (4, _)] lay28 rfl (PartsC.agg (q0 ?b4_1 A W 4 hf) (PartsC.agg (q1 ?b4_3 A W 6 hf) (PartsC.one (q2 ?b4_5 A W 8 hf) rfl (PartsC.one (q3 ?b4_7 A W 10 hf) rfl (PartsC.one (q4 ?b4_9 A W 12 hf) rfl (PartsC.nil)))))) (by simp [tupS, hs16, hd16])
  exact onn
 case t4 => exact inferInstance
 clear hr; intro a5 w5 x hr hd hs
 revert s2; refine kp1 hs rfl ?_; intro s2
 clear s1
 have s13 := fa ?b4_10 a5 w5 13 (hd 10 13 rfl)
 replace e_w := e_w.trans x
 clear e_w2
 have e_w3 := x; clear hd hs x
 have z6 := PxS.lt (later e_w3 s2)
 have l6 := (show (g3_2 = 0 ∨ w.heap.size < g3_2) ∧ True from ⟨by omega, trivial⟩)
 refine wl_storeSn hr size28 (later e_w3 s2) (Is.conv s13 (show _ = TupV (turnT T) from by simp [TupV, tupS, setAll, adrCells, turnT])) (by exact tup_len (turnT_ok hT9)) (by exact tup_one) rfl ?_; clear hr; intro a6 w6 hc hu hr hs
 have hb : Below w.heap.size w5 w6 := hc.below e_w.size l6.1
 revert s2; refine kp1 hs rfl ?_; intro s2
 clear s13
 replace s2 := hu _ _ _ (later e_w3 s2)
 try simp only [List.set_cons_zero, List.set_cons_succ] at s2
 replace e_w := e_w.below (Nat.le_refl _) hb
 clear e_w3
 clear hu hs hc hb
 refine wpList_nil ?_
 refine et ?_
 refine wp_ret ?_
 refine ret_cell Try.results18 hr tu28 rfl size28 s2 e_w ?_
 exact rfl

theorem c_pin {x0 x1 : Value} {w : World} {z m : Int} (h0 : (Is (.int .i64 z)) x0 w) (h1 : (Is (.int .i64 m)) x1 w)  :
    Calls Try.prog 61 #[x0, x1] w (Ret (Is (.bool (inB z m))) w) := by
 refine enter Try.func61 rfl Try.ntmps61 (k := 2) rfl (by decide) (fun a0 hr hargs => ?_)
 have s0 := sarg h0 (hargs 0 (by decide))
 have s1 := sarg h1 (hargs 1 (by decide))
 clear hargs
 refine sq ?_
 refine wp_reg 12 [[]] [?b1_0] mixed hr ?t1 ?o1 ?_
 case o1 =>
  apply oc0; intro A W hx hf
  exact ok_assignc
  exact onn
 case t1 => exact inferInstance
 clear hr; intro a2 w2 x hr hd hs
 revert s1; revert s0; refine kp2 hs rfl ?_; intro s0 s1
 have e_w := x; clear hd hs x
 refine es ?_
 refine wp_reg 12 [[(0, none)], [(5, some 0)], [(6, some 1)], [(0, none), (7, some 2)], [(1, none), (7, some 2)], [(8, some 3), (9, some 4), (7, some 2)], [(7, some 2), (10, some 5)], [(11, some 6)]] [?b3_0, ?b3_1, ?b3_1, ?b3_3, ?b3_4, ?b3_5, ?b3_6, ?b3_6] mixed hr ?t3 ?o3 ?_
 case o3 =>
  apply oc0; intro A W hx hf
  exact ok_movE (a0 := a2) (r0 hf)
  apply oc0; intro A W hx hf
  exact ok_geq (p2 s0 e_w hx (q0 ?b3_0 A W 5 hf)) (ec A (.int .i64 0))
  apply oc0; intro A W hx hf
  exact ok_move (q0 ?b3_1 A W 6 hf)
  refine ocg 7 ?_ (fun A W hx hf => ?_) ?_
  rfl
  exact gd_t (q1 ?b3_1 A W 7 hf) (fun hc => ok_movE (a0 := a2) (r0 hf))
  refine ocg 7 ?_ (fun A W hx hf => ?_) ?_
  rfl
  exact gd_t (q1 ?b3_1 A W 7 hf) (fun hc => ok_movE (a0 := a2) (r0 hf))
  refine ocg 7 ?_ (fun A W hx hf => ?_) ?_
  rfl
  exact gd_t (q2 ?b3_1 A W 7 hf) (fun hc => ok_leq (p2 s0 e_w hx (G.get (q0 ?b3_3 A W 8 hf) hc)) (p2 s1 e_w hx (G.get (q1 ?b3_4 A W 9 hf) hc)))
  apply oc0; intro A W hx hf
  exact ok_and (q0 ?b3_1 A W 7 hf) (q1 ?b3_5 A W 10 hf)
  apply oc0; intro A W hx hf
  exact ok_assign (q0 ?b3_6 A W 11 hf)
  exact onn
 case t3 => exact inferInstance
 clear hr; intro a4 w4 x hr hd hs
 clear s0 s1
 have s4 := fa ?b3_6 a4 w4 4 (hd 7 4 rfl)
 replace e_w := e_w.trans x; clear hd hs x
 refine et ?_
 refine wp_ret ?_
 refine ret_tmp Try.results61 hr e_w ?_
 exact Is.bool s4 rfl

theorem c_fam1 {x0 : Value} {w : World} {c : UInt8} (h0 : (ByteIs c) x0 w)  :
    Calls Try.prog 82 #[x0] w (Ret (Is (.bool (c != 0))) w) := by
 refine enter Try.func82 rfl Try.ntmps82 (k := 1) rfl (by decide) (fun a0 hr hargs => ?_)
 have s0 := sarg h0 (hargs 0 (by decide))
 clear hargs
 refine sq ?_
 refine wp_reg 5 [[]] [?b1_0] mixed hr ?t1 ?o1 ?_
 case o1 =>
  apply oc0; intro A W hx hf
  exact ok_assignc
  exact onn
 case t1 => exact inferInstance
 clear hr; intro a2 w2 x hr hd hs
 revert s0; refine kp1 hs rfl ?_; intro s0
 have e_w := x; clear hd hs x
 refine es ?_
 refine wp_reg 5 [[(0, none)], [(3, some 0)], [(4, some 1)]] [?b3_0, ?b3_1, ?b3_1] mixed hr ?t3 ?o3 ?_
 case o3 =>
  apply oc0; intro A W hx hf
  exact ok_movE (a0 := a2) (r0 hf)
  apply oc0; intro A W hx hf
  exact ok_neq (p2 s0 e_w hx (q0 ?b3_0 A W 3 hf)) (ec A (.int .u8 0))
  apply oc0; intro A W hx hf
  exact ok_assign (q0 ?b3_1 A W 4 hf)
  exact onn
 case t3 => exact inferInstance
 clear hr; intro a4 w4 x hr hd hs
 clear s0
 have s2 := fa ?b3_1 a4 w4 2 (hd 2 2 rfl)
 replace e_w := e_w.trans x; clear hd hs x
 refine et ?_
 refine wp_ret ?_
 refine ret_tmp Try.results82 hr e_w ?_
 exact Is.bool s2 (nz_int c)

theorem c_family {x0 x1 : Value} {w : World} {Sa Da : Adr} (h0 : (Is (AdrV Sa)) x0 w) (h1 : (Is (AdrV Da)) x1 w) (hA : Sa.b.length = 16) (hD : Da.b.length = 16) :
    Calls Try.prog 60 #[x0, x1] w (Ret (Is (.bool (famB Sa Da))) w) := by
 refine enter Try.func60 rfl Try.ntmps60 (k := 2) rfl (by decide) (fun a0 hr hargs => ?_)
 have s0 := sarg h0 (hargs 0 (by decide))
 have s1 := sarg h1 (hargs 1 (by decide))
 clear hargs
 refine sq ?_
 refine wp_reg 25 [[(0, none)], [(1, none)], []] [?b1_0, ?b1_1, ?b1_2] mixed hr ?t1 ?o1 ?_
 case o1 =>
  apply oc0; intro A W hx hf
  exact ok_boxA (o1 s0 hx (r0 hf))
  apply oc0; intro A W hx hf
  exact ok_boxA (o1 s1 hx (r0 hf))
  apply oc0; intro A W hx hf
  exact ok_assignc
  exact onn
 case t1 => exact inferInstance
 clear hr; intro a2 w2 x hr hd hs
 clear s0 s1
 have s2 := fa ?b1_0 a2 w2 2 (hd 0 2 rfl)
 have s3 := fa ?b1_1 a2 w2 3 (hd 1 3 rfl)
 have e_w := x; clear hd hs x
 refine es ?_
 refine sq ?_
 refine wp_reg 25 [[(2, none)], [(5, some 0)], [(6, some 1)], [(3, none), (7, some 2)], [(8, some 3), (7, some 2)], [(7, some 2), (9, some 4)]] [?b3_0, ?b3_1, ?b3_1, ?b3_3, ?b3_4, ?b3_5] mixed hr ?t3 ?o3 ?_
 case o3 =>
  apply oc0; intro A W hx hf
  exact ok_fieldAddr tu26 (i := 0) rfl size4 rfl (o1 s2 hx (r0 hf))
  apply oc0; intro A W hx hf
  exact ok_loadc tu4 rfl (q0 ?b3_0 A W 5 hf)
  apply oc0; intro A W hx hf
  exact ok_move (q0 ?b3_1 A W 6 hf)
  refine ocg 7 ?_ (fun A W hx hf => ?_) ?_
  rfl
  exact gd_f (q1 ?b3_1 A W 7 hf) (fun hc => ok_fieldAddr tu26 (i := 0) rfl size4 rfl (o1 s3 hx (r0 hf)))
  refine ocg 7 ?_ (fun A W hx hf => ?_) ?_
  rfl
  exact gd_f (q1 ?b3_1 A W 7 hf) (fun hc => ok_loadc tu4 rfl (G.get (q0 ?b3_3 A W 8 hf) hc))
  apply oc0; intro A W hx hf
  exact ok_or (q0 ?b3_1 A W 7 hf) (q1 ?b3_4 A W 9 hf)
  exact onn
 case t3 => exact inferInstance
 clear hr; intro a4 w4 x hr hd hs
 revert s3; revert s2; refine kp2 hs rfl ?_; intro s2 s3
 have s10 := fa ?b3_5 a4 w4 10 (hd 5 10 rfl)
 replace e_w := e_w.trans x
 have e_w2 := x; clear hd hs x
 refine et ?_
 refine wp_cond_split (show _ = _ from s10) (fun h6 => ?_) (fun h6 => ?_)
 ·
  skip
  refine sq ?_
  refine wp_reg 25 [[(2, none)], [(11, some 0)], [(12, some 1)], [(3, none), (13, some 2)], [(14, some 3), (13, some 2)], [(13, some 2), (15, some 4)], [(16, some 5)]] [?b6_0, ?b6_1, ?b6_1, ?b6_3, ?b6_4, ?b6_5, ?b6_5] mixed hr ?t6 ?o6 ?_
  case o6 =>
   apply oc0; intro A W hx hf
   exact ok_fieldAddr tu26 (i := 0) rfl size4 rfl (o2 s2 e_w2 hx (r0 hf))
   apply oc0; intro A W hx hf
   exact ok_loadc tu4 rfl (q0 ?b6_0 A W 11 hf)
   apply oc0; intro A W hx hf
   exact ok_move (q0 ?b6_1 A W 12 hf)
   refine ocg 13 ?_ (fun A W hx hf => ?_) ?_
   rfl
   exact gd_t (q1 ?b6_1 A W 13 hf) (fun hc => ok_fieldAddr tu26 (i := 0) rfl size4 rfl (o2 s3 e_w2 hx (r0 hf)))
   refine ocg 13 ?_ (fun A W hx hf => ?_) ?_
   rfl
   exact gd_t (q1 ?b6_1 A W 13 hf) (fun hc => ok_loadc tu4 rfl (G.get (q0 ?b6_3 A W 14 hf) hc))
   apply oc0; intro A W hx hf
   exact ok_and (q0 ?b6_1 A W 13 hf) (q1 ?b6_4 A W 15 hf)
   apply oc0; intro A W hx hf
   exact ok_assign (q0 ?b6_5 A W 16 hf)
   exact onn
  case t6 => exact inferInstance
  clear hr; intro a7 w7 x hr hd hs
  clear s2 s3 s10
  have s4 := fa ?b6_5 a7 w7 4 (hd 6 4 rfl)
  replace e_w := e_w.trans x
  clear e_w2; clear hd hs x
  refine et ?_
  refine wp_ret ?_
  refine then_ret ?_
  refine ret_tmp Try.results60 hr e_w ?_
  first | exact Is.bool s4 (fam_end h6) | exact Is.bool s4 (by revert h6; unfold famB; cases Sa.six <;> cases Da.six <;> simp)
 skip
 refine wp_skip ?_
 refine es ?_
 refine wp_reg 25 [[(2, none)], [(17, some 0)], [(3, none)], [(19, some 2)], [(18, some 1), (20, some 3)], [(21, some 4)], [(22, some 5)], [(23, some 6)], [(24, some 7)]] [?b8_0, ?b8_1, ?b8_2, ?b8_3, ?b8_4, ?b8_5, ?b8_6, ?b8_7, ?b8_7] mixed hr ?t8 ?o8 ?_
 case o8 =>
  apply oc0; intro A W hx hf
  exact ok_fieldAddr tu26 (i := 1) rfl size24 rfl (o2 s2 e_w2 hx (r0 hf))
  apply oc0; intro A W hx hf
  exact ok_arr_lo 4 tu24 size5 (adr_take hA) hA (by decide) (q0 ?b8_0 A W 17 hf) (ec A (.int .i64 4)) (by first | omega | decide | (simp; done) | (simp; omega))
  apply oc0; intro A W hx hf
  exact ok_fieldAddr tu26 (i := 1) rfl size24 rfl (o2 s3 e_w2 hx (r0 hf))
  apply oc0; intro A W hx hf
  exact ok_arr_lo 4 tu24 size5 (adr_take hD) hD (by decide) (q0 ?b8_2 A W 19 hf) (ec A (.int .i64 4)) (by first | omega | decide | (simp; done) | (simp; omega))
  apply oc0; intro A W hx hf
  exact ok_buildBss [(.tmp 18), (.tmp 20)] [_, _] tu107 size22 zero22 rfl rfl (by decide) (PartsOk.cons (q0 ?b8_1 A W 18 hf) (PartsOk.cons (q1 ?b8_3 A W 20 hf) (PartsOk.nil)))
  apply oc0; intro A W hx hf
  exact ok_call1 body34 (c_concat (q0 ?b8_4 A W 21 hf) hx.size (by simp [hA, hD]))
  apply oc0; intro A W hx hf
  exact ok_call2 body81 (c_ContainsFunc (OwnB.bs (q0 ?b8_5 A W 22 hf)) (show Is (FnV 82) (A.eval (.func 82)) _ from rfl) body82 fun c x w hc => c_fam1 hc)
  apply oc0; intro A W hx hf
  exact ok_not (q0 ?b8_6 A W 23 hf)
  apply oc0; intro A W hx hf
  exact ok_assign (q0 ?b8_7 A W 24 hf)
  exact onn
 case t8 => exact inferInstance
 clear hr; intro a9 w9 x hr hd hs
 have z_w_w4 := e_w.size
 have z_w2_w4 := e_w2.size
 clear s2 s3 s10
 have s4 := fa ?b8_7 a9 w9 4 (hd 8 4 rfl)
 replace e_w := e_w.trans x
 clear e_w2; clear hd hs x
 refine et ?_
 refine wp_ret ?_
 refine ret_tmp Try.results60 hr e_w ?_
 first | exact Is.bool s4 (fam_end h6) | exact Is.bool s4 (by revert h6; unfold famB; cases Sa.six <;> cases Da.six <;> simp)

theorem c_may {x0 x1 : Value} {w : World} {T : TupL} {f : Int} (h0 : (Is (TupV T)) x0 w) (h1 : (Is (.int .i64 f)) x1 w) (hT9 : TupOk T) :
    Calls Try.prog 32 #[x0, x1] w (Ret (Is (.bool (mayL T f))) w) := by
 obtain ⟨hs16, hd16⟩ := id hT9
 refine enter Try.func32 rfl Try.ntmps32 (k := 2) rfl (by decide) (fun a0 hr hargs => ?_)
 have s0 := sarg h0 (hargs 0 (by decide))
 have s1 := sarg h1 (hargs 1 (by decide))
 clear hargs
 refine sq ?_
 refine wp_reg 38 [[(0, none)], []] [?b1_0, ?b1_1] mixed hr ?t1 ?o1 ?_
 case o1 =>
  apply oc0; intro A W hx hf
  exact ok_boxS (tupS T) [1, 16, 1, 16, 1, 1, 1] (o1 s0 hx (r0 hf)) (by exact tupS_lens hT9) hx.size
  apply oc0; intro A W hx hf
  exact ok_assignc
  exact onn
 case t1 => exact inferInstance
 clear hr; intro a2 w2 x hr hd hs
 revert s1; refine kp1 hs rfl ?_; intro s1
 clear s0
 have s2 := fa ?b1_0 a2 w2 2 (hd 0 2 rfl)
 obtain ⟨g2_2, q2_2⟩ := PxN.at s2; clear s2; have n2_2 := PxS.lt q2_2
 have s2 := q2_2; clear q2_2
 have e_w := x; clear hd hs x
 refine es ?_
 refine wp_reg 38 ([(2, none)] :: [(5, some 0)] :: [(2, none)] :: [(7, some 2)] :: [(6, some 1), (8, some 3)] :: [(9, some 4)] :: [(2, none), (10, some 5)] :: [(11, some 6), (10, some 5)] :: [(12, some 7), (10, some 5)] :: [(10, some 5), (13, some 8)] :: [(14, some 9)] :: [(2, none), (15, some 10)] :: [(16, some 11), (15, some 10)] :: [(17, some 12), (15, some 10)] :: [(15, some 10), (18, some 13)] :: [(19, some 14)] :: [(2, none), (20, some 15)] :: [(21, some 16), (20, some 15)] :: [(22, some 17), (20, some 15)] :: [(20, some 15), (23, some 18)] :: [(24, some 19)] :: [(1, none), (25, some 20)] :: [(26, some 21), (25, some 20)] :: [(25, some 20), (27, some 22)] :: [(28, some 23)] :: [(2, none), (29, some 24)] :: [(30, some 25), (29, some 24)] :: [(31, some 26), (29, some 24)] :: [(32, some 27), (29, some 24)] :: [(1, none), (33, some 28)] :: [(34, some 29), (33, some 28)] :: [(33, some 28), (35, some 30), (29, some 24)] :: [(29, some 24), (36, some 31)] :: [(37, some 32)] :: []) (?b3_0 :: ?b3_1 :: ?b3_2 :: ?b3_3 :: ?b3_4 :: ?b3_4 :: ?b3_6 :: ?b3_7 :: ?b3_8 :: ?b3_9 :: ?b3_9 :: ?b3_11 :: ?b3_12 :: ?b3_13 :: ?b3_14 :: ?b3_14 :: ?b3_16 :: ?b3_17 :: ?b3_18 :: ?b3_19 :: ?b3_19 :: ?b3_21 :: ?b3_22 :: ?b3_23 :: ?b3_23 :: ?b3_25 :: ?b3_26 :: ?b3_27 :: ?b3_27 :: ?b3_29 :: ?b3_30 :: ?b3_31 :: ?b3_32 :: ?b3_32 :: []) mixed hr ?t3 ?o3 ?_
 case o3 =>
  apply oc0; intro A W hx hf
  exact ok_fieldS 0 tu28 (k := 0) rfl size26 rfl (o1 s2 hx (r0 hf)) rfl
  apply oc0; intro A W hx hf
  exact ok_loadAggS 2 tu26 rfl size26 (q0 ?b3_0 A W 5 hf) rfl
  apply oc0; intro A W hx hf
  exact ok_fieldS 2 tu28 (k := 1) rfl size26 rfl (o1 s2 hx (r0 hf)) rfl
  apply oc0; intro A W hx hf
  exact ok_loadAggS 4 tu26 rfl size26 (q0 ?b3_2 A W 7 hf) rfl
  apply oc0; intro A W hx hf
  exact ok_call2 body60 (c_family (Is.conv (q0 ?b3_1 A W 6 hf) (show _ = AdrV T.src from (adr_seg T.src))) (Is.conv (q1 ?b3_3 A W 8 hf) (show _ = AdrV T.dst from (adr_seg T.dst))) (by exact hs16) (by exact hd16))
  apply oc0; intro A W hx hf
  exact ok_move (q0 ?b3_4 A W 9 hf)
  refine ocg 10 ?_ (fun A W hx hf => ?_) ?_
  rfl
  exact gd_t (q1 ?b3_4 A W 10 hf) (fun hc => ok_fieldS 4 tu28 (k := 2) rfl size3 rfl (o1 s2 hx (r0 hf)) rfl)
  refine ocg 10 ?_ (fun A W hx hf => ?_) ?_
  rfl
  exact gd_t (q1 ?b3_4 A W 10 hf) (fun hc => ok_loadS tu3 rfl (G.get (q0 ?b3_6 A W 11 hf) hc) rfl)
  refine ocg 10 ?_ (fun A W hx hf => ?_) ?_
  rfl
  exact gd_t (q1 ?b3_4 A W 10 hf) (fun hc => ok_call1 body25 (c_carried (G.get (q0 ?b3_7 A W 12 hf) hc)))
  apply oc0; intro A W hx hf
  exact ok_and (q0 ?b3_4 A W 10 hf) (q1 ?b3_8 A W 13 hf)
  apply oc0; intro A W hx hf
  exact ok_move (q0 ?b3_9 A W 14 hf)
  refine ocg 15 ?_ (fun A W hx hf => ?_) ?_
  rfl
  exact gd_t (q1 ?b3_9 A W 15 hf) (fun hc => ok_fieldS 5 tu28 (k := 3) rfl size3 rfl (o1 s2 hx (r0 hf)) rfl)
  refine ocg 15 ?_ (fun A W hx hf => ?_) ?_
  rfl
  exact gd_t (q1 ?b3_9 A W 15 hf) (fun hc => ok_loadS tu3 rfl (G.get (q0 ?b3_11 A W 16 hf) hc) rfl)
  refine ocg 15 ?_ (fun A W hx hf => ?_) ?_
  rfl
  exact gd_t (q1 ?b3_9 A W 15 hf) (fun hc => ok_call2 body61 (c_pin (G.get (q0 ?b3_12 A W 17 hf) hc) (show Is (.int .i64 65535) (A.eval (.const (.int .i64 65535))) _ from rfl)))
  apply oc0; intro A W hx hf
  exact ok_and (q0 ?b3_9 A W 15 hf) (q1 ?b3_13 A W 18 hf)
  apply oc0; intro A W hx hf
  exact ok_move (q0 ?b3_14 A W 19 hf)
  refine ocg 20 ?_ (fun A W hx hf => ?_) ?_
  rfl
  exact gd_t (q1 ?b3_14 A W 20 hf) (fun hc => ok_fieldS 6 tu28 (k := 4) rfl size3 rfl (o1 s2 hx (r0 hf)) rfl)
  refine ocg 20 ?_ (fun A W hx hf => ?_) ?_
  rfl
  exact gd_t (q1 ?b3_14 A W 20 hf) (fun hc => ok_loadS tu3 rfl (G.get (q0 ?b3_16 A W 21 hf) hc) rfl)
  refine ocg 20 ?_ (fun A W hx hf => ?_) ?_
  rfl
  exact gd_t (q1 ?b3_14 A W 20 hf) (fun hc => ok_call2 body61 (c_pin (G.get (q0 ?b3_17 A W 22 hf) hc) (show Is (.int .i64 65535) (A.eval (.const (.int .i64 65535))) _ from rfl)))
  apply oc0; intro A W hx hf
  exact ok_and (q0 ?b3_14 A W 20 hf) (q1 ?b3_18 A W 23 hf)
  apply oc0; intro A W hx hf
  exact ok_move (q0 ?b3_19 A W 24 hf)
  refine ocg 25 ?_ (fun A W hx hf => ?_) ?_
  rfl
  exact gd_t (q1 ?b3_19 A W 25 hf) (fun hc => ok_movE (a0 := a2) (r0 hf))
  refine ocg 25 ?_ (fun A W hx hf => ?_) ?_
  rfl
  exact gd_t (q1 ?b3_19 A W 25 hf) (fun hc => ok_call2 body61 (c_pin (p2 s1 e_w hx (G.get (q0 ?b3_21 A W 26 hf) hc)) (show Is (.int .i64 63) (A.eval (.const (.int .i64 63))) _ from rfl)))
  apply oc0; intro A W hx hf
  exact ok_and (q0 ?b3_19 A W 25 hf) (q1 ?b3_22 A W 27 hf)
  apply oc0; intro A W hx hf
  exact ok_move (q0 ?b3_23 A W 28 hf)
  refine ocg 29 ?_ (fun A W hx hf => ?_) ?_
  rfl
  exact gd_t (q1 ?b3_23 A W 29 hf) (fun hc => ok_fieldS 4 tu28 (k := 2) rfl size3 rfl (o1 s2 hx (r0 hf)) rfl)
  refine ocg 29 ?_ (fun A W hx hf => ?_) ?_
  rfl
  exact gd_t (q1 ?b3_23 A W 29 hf) (fun hc => ok_loadS tu3 rfl (G.get (q0 ?b3_25 A W 30 hf) hc) rfl)
  refine ocg 29 ?_ (fun A W hx hf => ?_) ?_
  rfl
  exact gd_t (q1 ?b3_23 A W 29 hf) (fun hc => ok_eql (G.get (q0 ?b3_26 A W 31 hf) hc) (ec A (.int .i64 6)))
  refine ocg 29 ?_ (fun A W hx hf => ?_) ?_
  rfl
  exact gd_t (q1 ?b3_23 A W 29 hf) (fun hc => ok_move (G.get (q0 ?b3_27 A W 32 hf) hc))
  refine ocg 33 ?_ (fun A W hx hf => ?_) ?_
  rfl
  exact gd_gf (q1 ?b3_27 A W 33 hf) (fun hc => ok_movE (a0 := a2) (r0 hf))
  refine ocg 33 ?_ (fun A W hx hf => ?_) ?_
  rfl
  exact gd_gf (q1 ?b3_27 A W 33 hf) (fun hc => ok_eql (p2 s1 e_w hx (G.get (q0 ?b3_29 A W 34 hf) hc)) (ec A (.int .i64 0)))
  refine ocg 29 ?_ (fun A W hx hf => ?_) ?_
  rfl
  exact gd_t (q2 ?b3_23 A W 29 hf) (fun hc => ok_or (G.get (q0 ?b3_27 A W 33 hf) hc) (G.strip hc (q1 ?b3_30 A W 35 hf)))
  apply oc0; intro A W hx hf
  exact ok_and (q0 ?b3_23 A W 29 hf) (q1 ?b3_31 A W 36 hf)
  apply oc0; intro A W hx hf
  exact ok_assign (q0 ?b3_32 A W 37 hf)
  exact onn
 case t3 => repeat (first | exact stb_nil | refine stb_cons ?_)
 clear hr; intro a4 w4 x hr hd hs
 clear s1 s2
 have s4 := fa ?b3_32 a4 w4 4 (hd 33 4 rfl)
 replace e_w := e_w.trans x; clear hd hs x
 refine et ?_
 refine wp_ret ?_
 refine ret_tmp Try.results32 hr e_w ?_
 exact Is.bool s4 rfl

def D_c_seg_0 : List Tmp := [7, 21, 22, 23, 24, 25, 26, 27, 28, 29, 30, 31, 32, 33, 34, 35, 36, 37, 38]
theorem c_seg {x0 x1 x2 : Value} {w : World} {T : TupL} {f : Int} {load : List UInt8} {B : Nat} (h0 : (Is (TupV T)) x0 w) (h1 : (Is (.int .i64 f)) x1 w) (h2 : (Bs load) x2 w) (hT9 : TupOk T) (hm : MayOk T f) (hn9 : (load.length : Int) + (headL T : Int) ≤ 65535) (hB : B ≤ w.heap.size) :
    Calls Try.prog 35 #[x0, x1, x2] w (Ret (OwnB B 5 (pFill T.src T.dst T.proto (segL T f load))) w) := by
 have hlen := Bs.len_le h2
 obtain ⟨hs16, hd16⟩ := id hT9
 have hsp := hm.sport
 have hdp := hm.dport
 have hff := hm.flags
 have hhl := headL_bd T
 have hsl := segL_len T f load
 have hsk := seg_ok (load := load) hm hn9
 refine enter Try.func35 rfl Try.ntmps35 (k := 3) rfl (by decide) (fun a0 hr hargs => ?_)
 have s0 := sarg h0 (hargs 0 (by decide))
 have s1 := sarg h1 (hargs 1 (by decide))
 have s2 := sarg h2 (hargs 2 (by decide))
 clear hargs
 refine sq ?_
 refine wp_reg 49 [[(0, none)], []] [?b1_0, ?b1_1] mixed hr ?t1 ?o1 ?_
 case o1 =>
  apply oc0; intro A W hx hf
  exact ok_boxS (tupS T) [1, 16, 1, 16, 1, 1, 1] (o1 s0 hx (r0 hf)) (by exact tupS_lens hT9) hx.size
  apply oc0; intro A W hx hf
  exact ok_assignv (Bs []) (fun _ => bs_nil)
  exact onn
 case t1 => exact inferInstance
 clear hr; intro a2 w2 x hr hd hs
 revert s2; revert s1; refine kp2 hs rfl ?_; intro s1 s2
 clear s0
 have s3 := fa ?b1_0 a2 w2 3 (hd 0 3 rfl)
 obtain ⟨g2_3, q2_3⟩ := PxN.at s3; clear s3; have n2_3 := PxS.lt q2_3
 have s3 := q2_3; clear q2_3
 have e_w := x; clear hd hs x
 refine es ?_
 refine wp_reg 49 [[(3, none)], [(8, some 0)], [(9, some 1)], [(10, some 2)], [(3, none)], [(12, some 4)], [(13, some 5)], [(14, some 6)], [(11, some 3), (15, some 7)], [(16, some 8)], [(17, some 9)]] [?b3_0, ?b3_1, ?b3_2, ?b3_3, ?b3_4, ?b3_5, ?b3_6, ?b3_7, ?b3_8, ?b3_9, ?b3_9] mixed hr ?t3 ?o3 ?_
 case o3 =>
  apply oc0; intro A W hx hf
  exact ok_fieldS 5 tu28 (k := 3) rfl size3 rfl (o1 s3 hx (r0 hf)) rfl
  apply oc0; intro A W hx hf
  exact ok_loadS tu3 rfl (q0 ?b3_0 A W 8 hf) rfl
  apply oc0; intro A W hx hf
  exact ok_convI tu3 tu105 (by exact IntWalk.u64_in _ (by omega)) (q0 ?b3_1 A W 9 hf)
  apply oc0; intro A W hx hf
  exact ok_call3 body59 (c_Put (q0 ?b3_2 A W 10 hf) (show Is (.int .i64 2) (A.eval (.const (.int .i64 2))) _ from rfl) (show Is (.bool true) (A.eval (.const (.bool true))) _ from rfl) (by omega) hx.size)
  apply oc0; intro A W hx hf
  exact ok_fieldS 6 tu28 (k := 4) rfl size3 rfl (o1 s3 hx (r0 hf)) rfl
  apply oc0; intro A W hx hf
  exact ok_loadS tu3 rfl (q0 ?b3_4 A W 12 hf) rfl
  apply oc0; intro A W hx hf
  exact ok_convI tu3 tu105 (by exact IntWalk.u64_in _ (by omega)) (q0 ?b3_5 A W 13 hf)
  apply oc0; intro A W hx hf
  exact ok_call3 body59 (c_Put (q0 ?b3_6 A W 14 hf) (show Is (.int .i64 2) (A.eval (.const (.int .i64 2))) _ from rfl) (show Is (.bool true) (A.eval (.const (.bool true))) _ from rfl) (by omega) hx.size)
  apply oc0; intro A W hx hf
  exact ok_buildBss [(.tmp 11), (.tmp 15)] [_, _] tu107 size22 zero22 rfl rfl (by decide) (PartsOk.cons (OwnB.bs (q0 ?b3_3 A W 11 hf)) (PartsOk.cons (OwnB.bs (q1 ?b3_7 A W 15 hf)) (PartsOk.nil)))
  apply oc0; intro A W hx hf
  exact ok_call1 body34 (c_concat (q0 ?b3_8 A W 16 hf) hx.size (by simp [put2_len]))
  apply oc0; intro A W hx hf
  exact ok_assign (q0 ?b3_9 A W 17 hf)
  exact onn
 case t3 => exact inferInstance
 clear hr; intro a4 w4 x hr hd hs
 have z_w_w2 := e_w.size
 have l4_3 := PxS.lt s3
 revert s3; revert s2; revert s1; refine kp3 hs rfl ?_; intro s1 s2 s3
 have s7 := fa ?b3_9 a4 w4 7 (hd 10 7 rfl)
 obtain ⟨g4_7, q4_7⟩ := OwnB.at s7; clear s7; have n4_7 := OwnBA.lt q4_7
 replace q4_7 := OwnBA.mono q4_7 e_w.size
 have s7 := q4_7; clear q4_7
 replace e_w := e_w.trans x
 have e_w2 := x; clear hd hs x
 replace s7 := OwnBA.cast s7 (show _ = put2 T.sport ++ put2 T.dport from rfl)
 refine es ?_
 refine sq ?_
 refine wp_reg 49 [[(3, none)], [(18, some 0)], [(19, some 1)]] [?b5_0, ?b5_1, ?b5_2] mixed hr ?t5 ?o5 ?_
 case o5 =>
  apply oc0; intro A W hx hf
  exact ok_fieldS 4 tu28 (k := 2) rfl size3 rfl (o2 s3 e_w2 hx (r0 hf)) rfl
  apply oc0; intro A W hx hf
  exact ok_loadS tu3 rfl (q0 ?b5_0 A W 18 hf) rfl
  apply oc0; intro A W hx hf
  exact ok_eql (q0 ?b5_1 A W 19 hf) (ec A (.int .i64 17))
  exact onn
 case t5 => exact inferInstance
 clear hr; intro a6 w6 x hr hd hs
 revert s7; revert s3; revert s2; revert s1; refine kp4 hs rfl ?_; intro s1 s2 s3 s7
 have s20 := fa ?b5_2 a6 w6 20 (hd 2 20 rfl)
 replace e_w := e_w.trans x
 replace e_w2 := e_w2.trans x
 have e_w4 := x; clear hd hs x
 refine et ?_
 refine wp_cut (fun A W => ∃ (δ : Nat), Fr 49 A ∧ Same D_c_seg_0 a6 A ∧ Ext w W ∧ (g2_3 ≠ δ) ∧ (PxS g2_3 w.heap.size [1, 16, 1, 16, 1, 1, 1] (tupS T) 0) (A.eval (.tmp 3)) W ∧ (OwnBA δ w.heap.size 5 (put2 T.sport ++ put2 T.dport ++ (if T.proto = 17 then put2 (8 + (load.length : Int)) ++ [0, 0] else [0, 0, 0, 0, 0, 0, 0, 0, 80, b8 f, 0, 0, 0, 0, 0, 0]))) (A.eval (.tmp 7)) W) ?cut7 ?_
 case cut7 =>
  have m7 : Same D_c_seg_0 a6 a6 := Same.rfl
  refine wp_cond_split (show _ = _ from s20) (fun h17 => ?_) (fun h17 => ?_)
  ·
   have h17 : T.proto = 17 := by simpa using h17
   have hb9 : 0 ≤ 8 + (load.length : Int) ∧ 8 + (load.length : Int) ≤ 65535 := by unfold headL at hn9; rw [if_pos h17] at hn9; omega
   refine sq ?_
   refine wp_reg_pre (l := [_, _, _, _, _, _]) (rest := [_, _]) 49 [[(7, none)], [(2, none)], [(22, some 1)], [(23, some 2)], [(24, some 3)], [(25, some 4)]] [?b9_0, ?b9_1, ?b9_2, ?b9_3, ?b9_4, ?b9_5] hr ?t9 ?o9 ?_
   case o9 =>
    apply oc0; intro A W hx hf
    exact ok_movE (a0 := a6) (r0 hf)
    apply oc0; intro A W hx hf
    exact ok_movE (a0 := a6) (r0 hf)
    apply oc0; intro A W hx hf
    exact ok_len_bs tu22 (p2 s2 e_w hx (q0 ?b9_1 A W 22 hf))
    apply oc0; intro A W hx hf
    exact ok_addI (ec A (.int .i64 8)) (q0 ?b9_2 A W 23 hf) (by omega)
    apply oc0; intro A W hx hf
    exact ok_convI tu3 tu105 (by exact IntWalk.u64_in _ (by omega)) (q0 ?b9_3 A W 24 hf)
    apply oc0; intro A W hx hf
    exact ok_call3 body59 (c_Put (q0 ?b9_4 A W 25 hf) (show Is (.int .i64 2) (A.eval (.const (.int .i64 2))) _ from rfl) (show Is (.bool true) (A.eval (.const (.bool true))) _ from rfl) (by omega) hx.size)
    exact onn
   case t9 => exact inferInstance
   clear hr; intro a10 w10 x hr hd hs
   have z_w_w6 := e_w.size
   have z_w2_w6 := e_w2.size
   have z_w4_w6 := e_w4.size
   have l10_3 := PxS.lt (later e_w2 s3)
   have l10_7 := OwnBA.lt (later e_w4 s7)
   have u21 := mv s7 (fa ?b9_0 a10 w10 21 (hd 0 21 rfl))
   revert s7; revert s3; revert s2; refine kp3 hs rfl ?_; intro s2 s3 s7
   clear s1 s20
   have s21 := u21; clear u21
   have s26 := fa ?b9_5 a10 w10 26 (hd 5 26 rfl)
   obtain ⟨g10_26, q10_26⟩ := OwnB.at s26; clear s26; have n10_26 := OwnBA.lt q10_26
   replace q10_26 := OwnBA.mono q10_26 e_w.size
   have s26 := q10_26; clear q10_26
   replace e_w := e_w.trans x
   replace e_w2 := e_w2.trans x
   replace e_w4 := e_w4.trans x
   replace m7 := m7.tr hs rfl; clear hd hs x
   have l11 := OwnBA.lt (later e_w4 s21)
   have l11_3 := PxS.lt (later e_w2 s3)
   refine wl_append_bsA hr (by decide) tu22 info5 rfl (later e_w4 s21) (OwnBA.bs s26) e_w.size (by first | (simp [put2_len]; done) | (simp [put2_len]; omega) | (simp only [List.length_append, put2_len, List.length_cons, List.length_nil]; split <;> simp [put2_len] <;> omega)) ?_; clear hr; intro g11 a11 w11 hg11 hc hr hd hs
   have hb := hc.below e_w.size l11.1
   revert s3; revert s2; refine kp2 hs rfl ?_; intro s2 s3
   clear s7 s21 s26
   replace s3 := PxS.other (later e_w2 s3) hc (by omega)
   have s27 := hd
   replace e_w := e_w.below (Nat.le_refl _) hb
   clear e_w2
   clear e_w4
   replace m7 := m7.tr hs rfl
   clear hd hs hb hc
   refine wl_op hr (ok_assign s27) inferInstance ?_; clear hr; intro a12 w12 x hr hd hs
   revert s3; revert s2; refine kp2 hs rfl ?_; intro s2 s3
   clear s27
   have s7 := hd 7 rfl (by decide)
   replace e_w := e_w.trans x
   have e_w11 := x
   replace m7 := m7.tr hs rfl; clear hd hs x
   refine wpList_nil ?_
   refine et ?_
   refine wp_reg_pre (l := [_, _]) (rest := [_, _]) 49 [[(7, none)], []] [?b13_0, ?b13_1] hr ?t13 ?o13 ?_
   case o13 =>
    apply oc0; intro A W hx hf
    exact ok_movE (a0 := a12) (r0 hf)
    apply oc0; intro A W hx hf
    exact ok_buildBs [(.const (.int .u8 0)), (.const (.int .u8 0))] [_, _] tu22 size5 zero5 rfl rfl (by decide) (PartsOk.cons (show ByteIs 0 _ _ from rfl) (PartsOk.cons (show ByteIs 0 _ _ from rfl) (PartsOk.nil)))
    exact onn
   case t13 => exact inferInstance
   clear hr; intro a14 w14 x hr hd hs
   have u28 := mv s7 (fa ?b13_0 a14 w14 28 (hd 0 28 rfl))
   revert s7; revert s3; revert s2; refine kp3 hs rfl ?_; intro s2 s3 s7
   have s28 := u28; clear u28
   have s29 := fa ?b13_1 a14 w14 29 (hd 1 29 rfl)
   replace e_w := e_w.trans x
   replace e_w11 := e_w11.trans x
   have e_w12 := x
   replace m7 := m7.tr hs rfl; clear hd hs x
   have l15 := OwnBA.lt (later e_w12 s28)
   have l15_3 := PxS.lt (later e_w11 s3)
   refine wl_append_bsA hr (by decide) tu22 info5 rfl (later e_w12 s28) s29 e_w.size (by first | (simp [put2_len]; done) | (simp [put2_len]; omega) | (simp only [List.length_append, put2_len, List.length_cons, List.length_nil]; split <;> simp [put2_len] <;> omega)) ?_; clear hr; intro g15 a15 w15 hg15 hc hr hd hs
   have hb := hc.below e_w.size l15.1
   revert s3; revert s2; refine kp2 hs rfl ?_; intro s2 s3
   clear s7 s28 s29
   replace s3 := PxS.other (later e_w11 s3) hc (by omega)
   have s30 := hd
   replace e_w := e_w.below (Nat.le_refl _) hb
   clear e_w11
   clear e_w12
   replace m7 := m7.tr hs rfl
   clear hd hs hb hc
   refine wl_op hr (ok_assign s30) inferInstance ?_; clear hr; intro a16 w16 x hr hd hs
   revert s3; revert s2; refine kp2 hs rfl ?_; intro s2 s3
   clear s30
   have s7 := hd 7 rfl (by decide)
   replace e_w := e_w.trans x
   have e_w15 := x
   replace m7 := m7.tr hs rfl; clear hd hs x
   refine wpList_nil ?_
   refine et ?_
   refine ⟨g15, hr, m7, e_w, (by first | assumption | omega), ?_, ?_⟩
   · exact (later e_w15 s3)
   · first | exact OwnBA.cast s7 (by rw [if_pos h17]; simp) | exact OwnBA.cast s7 (by rw [if_neg h17]; rfl)
  have h17 : ¬ T.proto = 17 := by simpa using h17
  refine sq ?_
  refine wp_reg_pre (l := [_]) (rest := [_, _]) 49 [[(7, none)]] [?b17_0] hr ?t17 ?o17 ?_
  case o17 =>
   apply oc0; intro A W hx hf
   exact ok_movE (a0 := a6) (r0 hf)
   exact onn
  case t17 => exact inferInstance
  clear hr; intro a18 w18 x hr hd hs
  have u31 := mv s7 (fa ?b17_0 a18 w18 31 (hd 0 31 rfl))
  revert s7; revert s3; revert s2; revert s1; refine kp4 hs rfl ?_; intro s1 s2 s3 s7
  clear s20
  have s31 := u31; clear u31
  replace e_w := e_w.trans x
  replace e_w2 := e_w2.trans x
  replace e_w4 := e_w4.trans x
  replace m7 := m7.tr hs rfl; clear hd hs x
  have l19 := OwnBA.lt (later e_w4 s31)
  have l19_3 := PxS.lt (later e_w2 s3)
  refine wl_append_z hr (by decide) tu22 tu3 info5 rfl (later e_w4 s31) (show Is (.int .i64 ((16 : Nat) : Int)) _ _ from (ec a18 (.int .i64 16))) (by decide) e_w.size (by first | (simp [put2_len]; done) | (simp [put2_len]; omega) | (simp only [List.length_append, put2_len, List.length_cons, List.length_nil]; split <;> simp [put2_len] <;> omega)) ?_; clear hr; intro g19 a19 w19 hg19 hc hr hd hs
  have hb := hc.below e_w.size l19.1
  revert s3; revert s2; revert s1; refine kp3 hs rfl ?_; intro s1 s2 s3
  clear s7 s31
  replace s3 := PxS.other (later e_w2 s3) hc (by omega)
  have s32 := hd
  replace e_w := e_w.below (Nat.le_refl _) hb
  clear e_w2
  clear e_w4
  replace m7 := m7.tr hs rfl
  clear hd hs hb hc
  refine wl_op hr (ok_assign s32) inferInstance ?_; clear hr; intro a20 w20 x hr hd hs
  revert s3; revert s2; revert s1; refine kp3 hs rfl ?_; intro s1 s2 s3
  clear s32
  have s7 := hd 7 rfl (by decide)
  replace e_w := e_w.trans x
  have e_w19 := x
  replace m7 := m7.tr hs rfl; clear hd hs x
  refine wpList_nil ?_
  refine et ?_
  refine wp_reg_pre (l := [_, _, _, _, _]) (rest := [_, _, _]) 49 [[(7, none)], [(7, none)], [(1, none)], [(35, some 2)], [(33, some 0)]] [?b21_0, ?b21_1, ?b21_2, ?b21_3, ?b21_4] hr ?t21 ?o21 ?_
  case o21 =>
   apply oc0; intro A W hx hf
   exact ok_movE (a0 := a20) (r0 hf)
   apply oc0; intro A W hx hf
   exact ok_movE (a0 := a20) (r0 hf)
   apply oc0; intro A W hx hf
   exact ok_movE (a0 := a20) (r0 hf)
   apply oc0; intro A W hx hf
   exact ok_conv8 tu3 tu5 (p2 s1 e_w hx (q0 ?b21_2 A W 35 hf))
   apply oc0; intro A W hx hf
   exact ok_indexA (12) tu22 size5 (p1 s7 hx (q0 ?b21_0 A W 33 hf)) (ec A (.int .i64 12)) (by simp [put2_len])
   exact onn
  case t21 => exact inferInstance
  clear hr; intro a22 w22 x hr hd hs
  have u34 := mv s7 (fa ?b21_1 a22 w22 34 (hd 1 34 rfl))
  revert s7; revert s3; revert s2; refine kp3 hs rfl ?_; intro s2 s3 s7
  clear s1
  have s34 := u34; clear u34
  have s36 := fa ?b21_3 a22 w22 36 (hd 3 36 rfl)
  have s37 := fa ?b21_4 a22 w22 37 (hd 4 37 rfl)
  replace e_w := e_w.trans x
  replace e_w19 := e_w19.trans x
  have e_w20 := x
  replace m7 := m7.tr hs rfl; clear hd hs x
  have z23 := EpA.lt s37
  have l23 := (show (g19 = 0 ∨ w.heap.size < g19) ∧ True from ⟨by omega, trivial⟩)
  have l23_3 := PxS.lt (later e_w19 s3)
  refine wl_storeA hr size5 s37 (show ByteIs 80 _ _ from rfl) ?_; clear hr; intro a23 w23 hc hu hr hs
  have hb : Below w.heap.size w22 w23 := hc.below e_w.size l23.1
  revert s36; revert s34; revert s7; revert s3; revert s2; refine kp5 hs rfl ?_; intro s2 s3 s7 s34 s36
  clear s37
  replace s3 := PxS.other (later e_w19 s3) hc (by omega)
  replace s7 := hu _ _ _ (later e_w20 s7)
  replace s34 := hu _ _ _ (later e_w20 s34)
  replace e_w := e_w.below (Nat.le_refl _) hb
  clear e_w19
  clear e_w20
  replace s36 := anyw (w2 := w23) s36
  replace m7 := m7.tr hs rfl
  clear hu hs hc hb
  refine wl_op hr (ok_indexA (13) tu22 size5 s34 (ec a23 (.int .i64 13)) (by simp [put2_len])) inferInstance ?_; clear hr; intro a24 w24 x hr hd hs
  revert s36; revert s7; revert s3; revert s2; refine kp4 hs rfl ?_; intro s2 s3 s7 s36
  clear s34
  have s38 := hd 38 rfl (by decide)
  replace e_w := e_w.trans x
  have e_w23 := x
  replace m7 := m7.tr hs rfl; clear hd hs x
  have z25 := EpA.lt s38
  have l25 := (show (g19 = 0 ∨ w.heap.size < g19) ∧ True from ⟨by omega, trivial⟩)
  have l25_3 := PxS.lt (later e_w23 s3)
  refine wl_storeA hr size5 s38 (later e_w23 s36) ?_; clear hr; intro a25 w25 hc hu hr hs
  have hb : Below w.heap.size w24 w25 := hc.below e_w.size l25.1
  revert s7; revert s3; revert s2; refine kp3 hs rfl ?_; intro s2 s3 s7
  clear s36 s38
  replace s3 := PxS.other (later e_w23 s3) hc (by omega)
  replace s7 := hu _ _ _ (later e_w23 s7)
  replace e_w := e_w.below (Nat.le_refl _) hb
  clear e_w23
  replace m7 := m7.tr hs rfl
  clear hu hs hc hb
  refine wpList_nil ?_
  refine et ?_
  refine ⟨g19, hr, m7, e_w, (by first | assumption | omega), ?_, ?_⟩
  · exact s3
  · first | exact OwnBA.cast s7 (by rw [if_pos h17]; simp) | exact OwnBA.cast s7 (by rw [if_neg h17]; rfl)
 intro a7 w7 hI
 clear e_w
 clear e_w2
 clear e_w4
 clear hr; obtain ⟨δ, hr, hs, e_w, nd3, u3, u7⟩ := hI
 revert s2; refine kp1 hs rfl ?_; intro s2
 clear s1 s3 s7 s20
 have s3 := u3; clear u3
 have s7 := u7; clear u7
 clear hs
 refine sq ?_
 refine wp_anyH_start (fun W => Below w.heap.size w W ∧ BlkS g2_3 [1, 16, 1, 16, 1, 1, 1] _ W) mixed (fun w' x => ⟨(e_w.trans x), PxS.blkS (later x s3)⟩) (fun w26 x _ => ?_)
 show wpAnyH _ _ _ _ _ 11 _ _ _
 replace e_w := e_w.trans x
 have e_w7 := x
 clear x
 refine anyH_op (i := 0) hr rfl (by decide) (by kernel_rfl) (fun _ _ _ _ h => h) (yh (py_of (ok_fieldS 0 tu28 (k := 0) rfl size26 rfl (later e_w7 s3) rfl) (pv_field tu28 (k := 0) rfl size26 rfl (PxS.cells (later e_w7 s3))))) ⟨e_w, PxS.blkS (later e_w7 s3)⟩ ?_; clear hr; intro a27 hr hd hs
 revert s7; revert s3; revert s2; refine kp3 hs rfl ?_; intro s2 s3 s7
 have s39 := hd
 clear hd hs
 refine anyH_op (i := 1) hr rfl (by decide) (by kernel_rfl) (fun _ _ _ _ h => h) (yh_loadAgS 2 tu26 rfl size26 s39 (fun W hW => hW.2) rfl) ⟨e_w, PxS.blkS (later e_w7 s3)⟩ ?_; clear hr; intro a28 hr hd hs
 revert s7; revert s3; revert s2; refine kp3 hs rfl ?_; intro s2 s3 s7
 clear s39
 have s40 := hd
 clear hd hs
 refine anyH_op (i := 2) hr rfl (by decide) (by kernel_rfl) (fun _ _ _ _ h => h) (yh (py_of (ok_fieldS 2 tu28 (k := 1) rfl size26 rfl (later e_w7 s3) rfl) (pv_field tu28 (k := 1) rfl size26 rfl (PxS.cells (later e_w7 s3))))) ⟨e_w, PxS.blkS (later e_w7 s3)⟩ ?_; clear hr; intro a29 hr hd hs
 revert s40; revert s7; revert s3; revert s2; refine kp4 hs rfl ?_; intro s2 s3 s7 s40
 have s41 := hd
 clear hd hs
 refine anyH_op (i := 3) hr rfl (by decide) (by kernel_rfl) (fun _ _ _ _ h => h) (yh_loadAgS 4 tu26 rfl size26 s41 (fun W hW => hW.2) rfl) ⟨e_w, PxS.blkS (later e_w7 s3)⟩ ?_; clear hr; intro a30 hr hd hs
 revert s40; revert s7; revert s3; revert s2; refine kp4 hs rfl ?_; intro s2 s3 s7 s40
 clear s41
 have s42 := hd
 clear hd hs
 refine anyH_op (i := 4) hr rfl (by decide) (by kernel_rfl) (fun _ _ _ _ h => h) (yh (py_of (ok_fieldS 4 tu28 (k := 2) rfl size3 rfl (later e_w7 s3) rfl) (pv_field tu28 (k := 2) rfl size3 rfl (PxS.cells (later e_w7 s3))))) ⟨e_w, PxS.blkS (later e_w7 s3)⟩ ?_; clear hr; intro a31 hr hd hs
 revert s42; revert s40; revert s7; revert s3; revert s2; refine kp5 hs rfl ?_; intro s2 s3 s7 s40 s42
 have s43 := hd
 clear hd hs
 refine anyH_op (i := 5) hr rfl (by decide) (by kernel_rfl) (fun _ _ _ _ h => h) (yh_loadSg tu3 rfl s43 (fun W hW => hW.2) rfl) ⟨e_w, PxS.blkS (later e_w7 s3)⟩ ?_; clear hr; intro a32 hr hd hs
 revert s42; revert s40; revert s7; revert s3; revert s2; refine kp5 hs rfl ?_; intro s2 s3 s7 s40 s42
 clear s43
 have s44 := hd
 clear hd hs
 refine anyH_op (i := 6) hr rfl (by decide) (by kernel_rfl) (fun _ _ _ _ h => h) (yh (py_of (ok_move (later e_w7 s7)) (pv_move))) ⟨e_w, PxS.blkS (later e_w7 s3)⟩ ?_; clear hr; intro a33 hr hd hs
 revert s44; revert s42; revert s40; revert s3; revert s2; refine kp5 hs rfl ?_; intro s2 s3 s40 s42 s44
 clear s7
 have s45 := hd
 clear hd hs
 refine anyH_op (i := 7) hr rfl (by decide) (by kernel_rfl) (fun _ _ _ _ h => h) (yh (py_of (ok_move (show AtW w _ _ _ from s2)) (pv_move))) ⟨e_w, PxS.blkS (later e_w7 s3)⟩ ?_; clear hr; intro a34 hr hd hs
 revert s45; revert s44; revert s42; revert s40; revert s3; refine kp5 hs rfl ?_; intro s3 s40 s42 s44 s45
 clear s2
 have s46 := AtW.base hd
 clear hd hs
 refine anyH_br1 (i := 8) (by kernel_rfl) rfl ?_
 ·
  have l35 := OwnBA.lt s45
  have l35_3 := PxS.lt (later e_w7 s3)
  refine wl_append_bsA hr (by decide) tu22 info5 rfl s45 (later e_w s46) e_w.size (by first | (simp [put2_len]; done) | (simp [put2_len]; omega) | (simp only [List.length_append, put2_len, List.length_cons, List.length_nil]; split <;> simp [put2_len] <;> omega)) ?_; clear hr; intro g35 a35 w35 hg35 hc hr hd hs
  have hb := hc.below e_w.size l35.1
  revert s44; revert s42; revert s40; revert s3; refine kp4 hs rfl ?_; intro s3 s40 s42 s44
  clear s45 s46
  replace s3 := PxS.other (later e_w7 s3) hc (by omega)
  have s47 := hd
  replace e_w := e_w.below (Nat.le_refl _) hb
  clear e_w7
  replace s40 := anyw (w2 := w35) s40
  replace s42 := anyw (w2 := w35) s42
  replace s44 := anyw (w2 := w35) s44
  clear hd hs hb hc
  refine qn_done ⟨e_w, PxS.blkS s3⟩ ?_
  refine anyH_br1 (i := 9) (by kernel_rfl) rfl ?_
  ·
   have l36_3 := PxS.lt s3
   have l36_47 := OwnBA.lt s47
   refine wl_op hr (ok_call4 body65 (c_pFill (Is.conv s40 (show _ = AdrV T.src from (adr_seg T.src))) (Is.conv s42 (show _ = AdrV T.dst from (adr_seg T.dst))) s44 (OwnBA.bs s47) (by exact hs16) (by exact hd16) (by exact hsk) (by show ((segL T f load).length) ≤ 65535; omega) (Nat.le_refl _))) inferInstance ?_; clear hr; intro a36 w36 x hr hd hs
   revert s3; refine kp1 hs rfl ?_; intro s3
   clear s47 s40 s42 s44
   have s48 := hd 48 rfl (by decide)
   obtain ⟨g36_48, q36_48⟩ := OwnB.at s48; clear s48; have n36_48 := OwnBA.lt q36_48
   replace q36_48 := OwnBA.mono q36_48 e_w.size
   have s48 := q36_48; clear q36_48
   replace e_w := e_w.trans x
   have e_w35 := x; clear hd hs x
   refine qn_done ⟨e_w, PxS.blkS (later e_w35 s3)⟩ ?_
   refine anyH_op (i := 10) hr rfl (by decide) (by kernel_rfl) (fun _ _ _ _ h => h) (yh (py_of (ok_assign s48) (pv_assign))) ⟨e_w, PxS.blkS (later e_w35 s3)⟩ ?_; clear hr; intro a37 hr hd hs
   revert s3; refine kp1 hs rfl ?_; intro s3
   clear s48
   have s6 := hd
   clear hd hs
   refine anyH_done (by kernel_rfl) ?_
   refine et ?_
   refine wp_ret ?_
   refine ret_tmp Try.results35 hr e_w ?_
   exact OwnB.cast (OwnB.mono s6.own hB) (by rfl)

def D_c_pkMake_0 : List Tmp := [21]
def D_c_pkMake_1 : List Tmp := [12, 41, 42, 43]
set_option maxHeartbeats 1000000 in
theorem c_pkMake {x0 x1 x2 x3 : Value} {w : World} {L : LinkL} {T : TupL} {f : Int} {load : List UInt8} {B : Nat} (h0 : (LinkV L) x0 w) (h1 : (Is (TupV T)) x1 w) (h2 : (Is (.int .i64 f)) x2 w) (h3 : (Bs load) x3 w) (hL : LinkOk L) (hT9 : TupOk T) (hn9 : load.length ≤ 100000) (hB : B ≤ w.heap.size) :
    Calls Try.prog 12 #[x0, x1, x2, x3] w (Ret (Tup2 (OwnB B 5 (makeR L T f load).1) (Is (.int .i64 (makeR L T f load).2))) w) := by
 obtain ⟨v, eh0, hT, hvh0⟩ := h0
 replace h0 : Is (LnkA L v) x0 w := eh0
 have hll := Bs.len_le h3
 have hsl := segL_len T f load
 obtain ⟨hs16, hd16⟩ := id hT9
 have hhl := headL_bd T
 have hsn := segN_head (T := T) (load := load)
 have hll2 := linkPut_len (typedL_ok (six := T.src.six) hL)
 refine enter Try.func12 rfl Try.ntmps12 (k := 4) rfl (by decide) (fun a0 hr hargs => ?_)
 have s0 := sarg h0 (hargs 0 (by decide))
 have s1 := sarg h1 (hargs 1 (by decide))
 have s2 := sarg h2 (hargs 2 (by decide))
 have s3 := sarg h3 (hargs 3 (by decide))
 clear hargs
 refine sq ?_
 refine wp_reg_pre (l := [_]) (rest := [_, _, _]) 95 [[(0, none)]] [?b1_0] hr ?t1 ?o1 ?_
 case o1 =>
  apply oc0; intro A W hx hf
  exact ok_boxS (lnkS L v) [6, 6, 1, 1, 1] (o1 s0 hx (r0 hf)) (by exact lnkS_lens hL) hx.size
  exact onn
 case t1 => exact inferInstance
 clear hr; intro a2 w2 x hr hd hs
 revert s3; revert s2; revert s1; refine kp3 hs rfl ?_; intro s1 s2 s3
 clear s0
 have s4 := fa ?b1_0 a2 w2 4 (hd 0 4 rfl)
 obtain ⟨g2_4, q2_4⟩ := PxN.at s4; clear s4; have n2_4 := PxS.lt q2_4
 have s4 := q2_4; clear q2_4
 have e_w := x; clear hd hs x
 have l3_4 := PxS.lt s4
 refine wl_op hr (ok_boxS (tupS T) [1, 16, 1, 16, 1, 1, 1] (later e_w s1) (by exact tupS_lens hT9) (Nat.le_refl _)) inferInstance ?_; clear hr; intro a3 w3 x hr hd hs
 revert s4; revert s3; revert s2; refine kp3 hs rfl ?_; intro s2 s3 s4
 clear s1
 have s5 := hd 5 rfl (by decide)
 obtain ⟨g3_5, q3_5⟩ := PxN.at s5; clear s5; have n3_5 := PxS.lt q3_5
 replace q3_5 := PxS.mono q3_5 e_w.size
 have s5 := q3_5; clear q3_5
 replace e_w := e_w.trans x
 have e_w2 := x; clear hd hs x
 refine wl_op hr (ok_assignv (OwnBA 0 w.heap.size 5 []) (fun _ => ownBA_nil)) inferInstance ?_; clear hr; intro a4 w4 x hr hd hs
 revert s5; revert s4; revert s3; revert s2; refine kp4 hs rfl ?_; intro s2 s3 s4 s5
 replace e_w := e_w.trans x
 replace e_w2 := e_w2.trans x
 have e_w3 := x; clear hd hs x
 refine wl_op hr (ok_assignc) inferInstance ?_; clear hr; intro a5 w5 x hr hd hs
 revert s5; revert s4; revert s3; revert s2; refine kp4 hs rfl ?_; intro s2 s3 s4 s5
 replace e_w := e_w.trans x
 replace e_w2 := e_w2.trans x
 replace e_w3 := e_w3.trans x; clear hd hs x
 refine wpList_nil ?_
 refine es ?_
 refine wp_reg_pre (l := [_]) (rest := [_]) 95 [[(4, none)]] [?b6_0] hr ?t6 ?o6 ?_
 case o6 =>
  apply oc0; intro A W hx hf
  exact ok_fieldS 3 tu36 (k := 3) rfl size3 rfl (o2 s4 e_w2 hx (r0 hf)) rfl
  exact onn
 case t6 => exact inferInstance
 clear hr; intro a7 w7 x hr hd hs
 revert s5; revert s4; revert s3; revert s2; refine kp4 hs rfl ?_; intro s2 s3 s4 s5
 have s17 := fa ?b6_0 a7 w7 17 (hd 0 17 rfl)
 replace e_w := e_w.trans x
 replace e_w2 := e_w2.trans x
 replace e_w3 := e_w3.trans x; clear hd hs x
 have z8 := PxS.lt s17
 have l8 := (show (g2_4 = 0 ∨ w.heap.size < g2_4) ∧ True from ⟨by omega, trivial⟩)
 have l8_5 := PxS.lt (later e_w3 s5)
 refine wl_storeS hr size3 s17 (ec a7 (.int .i64 2048)) (by rfl) rfl ?_; clear hr; intro a8 w8 hc hu hr hs
 have hb : Below w.heap.size w7 w8 := hc.below e_w.size l8.1
 revert s5; revert s4; revert s3; revert s2; refine kp4 hs rfl ?_; intro s2 s3 s4 s5
 clear s17
 replace s4 := hu _ _ _ (later e_w2 s4)
 try simp only [List.set_cons_zero, List.set_cons_succ, lnkS] at s4
 replace s5 := PxS.other (later e_w3 s5) hc (by omega)
 replace e_w := e_w.below (Nat.le_refl _) hb
 clear e_w2
 clear e_w3
 clear hu hs hc hb
 refine wpList_nil ?_
 refine es ?_
 refine sq ?_
 refine wp_reg 95 [[(5, none)], [(18, some 0)], [(19, some 1)]] [?b9_0, ?b9_1, ?b9_2] mixed hr ?t9 ?o9 ?_
 case o9 =>
  apply oc0; intro A W hx hf
  exact ok_fieldS 0 tu28 (k := 0) rfl size26 rfl (o1 s5 hx (r0 hf)) rfl
  apply oc0; intro A W hx hf
  exact ok_fieldS 0 tu26 (k := 0) rfl size4 rfl (q0 ?b9_0 A W 18 hf) rfl
  apply oc0; intro A W hx hf
  exact ok_loadS tu4 rfl (q0 ?b9_1 A W 19 hf) rfl
  exact onn
 case t9 => exact inferInstance
 clear hr; intro a10 w10 x hr hd hs
 revert s5; revert s4; revert s3; revert s2; refine kp4 hs rfl ?_; intro s2 s3 s4 s5
 have s20 := fa ?b9_2 a10 w10 20 (hd 2 20 rfl)
 replace e_w := e_w.trans x
 have e_w8 := x; clear hd hs x
 refine et ?_
 refine wp_cut (fun A W => Fr 95 A ∧ Same D_c_pkMake_0 a10 A ∧ Ext w W ∧ (PxS g2_4 w.heap.size [6, 6, 1, 1, 1] (lnkS (typedL L T.src.six) v) 0) (A.eval (.tmp 4)) W ∧ (PxS g3_5 w.heap.size [1, 16, 1, 16, 1, 1, 1] (tupS T) 0) (A.eval (.tmp 5)) W) ?cut11 ?_
 case cut11 =>
  have m11 : Same D_c_pkMake_0 a10 a10 := Same.rfl
  refine wp_cond_split (show _ = _ from s20) (fun h6 => ?_) (fun h6 => ?_)
  ·
   skip
   refine wp_reg_pre (l := [_]) (rest := [_]) 95 [[(4, none)]] [?b13_0] hr ?t13 ?o13 ?_
   case o13 =>
    apply oc0; intro A W hx hf
    exact ok_fieldS 3 tu36 (k := 3) rfl size3 rfl (o2 s4 e_w8 hx (r0 hf)) rfl
    exact onn
   case t13 => exact inferInstance
   clear hr; intro a14 w14 x hr hd hs
   revert s5; revert s4; revert s3; revert s2; refine kp4 hs rfl ?_; intro s2 s3 s4 s5
   clear s20
   have s21 := fa ?b13_0 a14 w14 21 (hd 0 21 rfl)
   replace e_w := e_w.trans x
   replace e_w8 := e_w8.trans x
   replace m11 := m11.tr hs rfl; clear hd hs x
   have z15 := PxS.lt s21
   have l15 := (show (g2_4 = 0 ∨ w.heap.size < g2_4) ∧ True from ⟨by omega, trivial⟩)
   have l15_5 := PxS.lt (later e_w8 s5)
   refine wl_storeS hr size3 s21 (ec a14 (.int .i64 34525)) (by rfl) rfl ?_; clear hr; intro a15 w15 hc hu hr hs
   have hb : Below w.heap.size w14 w15 := hc.below e_w.size l15.1
   revert s5; revert s4; revert s3; revert s2; refine kp4 hs rfl ?_; intro s2 s3 s4 s5
   clear s21
   replace s4 := hu _ _ _ (later e_w8 s4)
   try simp only [List.set_cons_zero, List.set_cons_succ, lnkS] at s4
   replace s5 := PxS.other (later e_w8 s5) hc (by omega)
   replace e_w := e_w.below (Nat.le_refl _) hb
   clear e_w8
   replace m11 := m11.tr hs rfl
   clear hu hs hc hb
   refine wpList_nil ?_
   refine et ?_
   refine ⟨hr, m11, e_w, ?_, ?_⟩
   · exact PxS.cast s4 (by rw [h6]; rfl)
   · exact s5
  skip
  refine wp_skip ?_
  refine et ?_
  refine ⟨hr, m11, e_w, ?_, ?_⟩
  · exact PxS.cast (later e_w8 s4) (by rw [h6]; rfl)
  · exact (later e_w8 s5)
 intro a11 w11 hI
 clear e_w
 clear e_w8
 clear hr; obtain ⟨hr, hs, e_w, u4, u5⟩ := hI
 revert s3; revert s2; refine kp2 hs rfl ?_; intro s2 s3
 clear s4 s5 s20
 have s4 := u4; clear u4
 have s5 := u5; clear u5
 clear hs
 refine sq ?_
 refine wp_reg 95 [[(4, none)], [(23, some 0)], [(24, some 1)], [(22, some 2)], [(22, some 2)], [(25, some 3)], [(26, some 4)]] [?b16_0, ?b16_1, ?b16_1, ?b16_3, ?b16_4, ?b16_3, ?b16_4] mixed hr ?t16 ?o16 ?_
 case o16 =>
  apply oc0; intro A W hx hf
  exact ok_loadAggS 5 tu36 rfl size36 (o1 s4 hx (r0 hf)) rfl
  apply oc0; intro A W hx hf
  exact ok_call1 body31 (c_lPut (LinkV.of (show Is (LnkA (typedL L T.src.six) v) _ _ from (q0 ?b16_0 A W 23 hf)) (later (e_w.trans hx) hT)) (by exact typedL_ok hL) hx.size)
  apply oc0; intro A W hx hf
  exact ok_move (q0 ?b16_1 A W 24 hf)
  apply oc0; intro A W hx hf
  exact ok_ext0 (q0 ?b16_1 A W 22 hf)
  apply oc0; intro A W hx hf
  exact ok_ext1 (q0 ?b16_1 A W 22 hf)
  apply oc0; intro A W hx hf
  exact ok_assign (q0 ?b16_3 A W 25 hf)
  apply oc0; intro A W hx hf
  exact ok_assign (q0 ?b16_4 A W 26 hf)
  exact onn
 case t16 => exact inferInstance
 clear hr; intro a17 w17 x hr hd hs
 have z_w_w11 := e_w.size
 have l17_4 := PxS.lt s4
 have l17_5 := PxS.lt s5
 revert s5; revert s3; revert s2; refine kp3 hs rfl ?_; intro s2 s3 s5
 clear s4
 have s10 := fa ?b16_3 a17 w17 10 (hd 5 10 rfl)
 have s11 := fa ?b16_4 a17 w17 11 (hd 6 11 rfl)
 obtain ⟨g17_10, q17_10⟩ := OwnB.at s10; clear s10; have n17_10 := OwnBA.lt q17_10
 replace q17_10 := OwnBA.mono q17_10 e_w.size
 have s10 := q17_10; clear q17_10
 replace e_w := e_w.trans x
 have e_w11 := x; clear hd hs x
 refine es ?_
 refine sq ?_
 refine wp_reg 95 [[(11, none)], [(27, some 0)], [(28, some 1)], [(5, none), (29, some 2)], [(2, none), (29, some 2)], [(30, some 3), (31, some 4), (29, some 2)], [(32, some 5), (29, some 2)], [(29, some 2), (33, some 6)]] [?b18_0, ?b18_1, ?b18_1, ?b18_3, ?b18_4, ?b18_5, ?b18_6, ?b18_7] mixed hr ?t18 ?o18 ?_
 case o18 =>
  apply oc0; intro A W hx hf
  exact ok_movE (a0 := a17) (r0 hf)
  apply oc0; intro A W hx hf
  exact ok_neq (p1 s11 hx (q0 ?b18_0 A W 27 hf)) (ec A (.int .i64 0))
  apply oc0; intro A W hx hf
  exact ok_move (q0 ?b18_1 A W 28 hf)
  refine ocg 29 ?_ (fun A W hx hf => ?_) ?_
  rfl
  exact gd_f (q1 ?b18_1 A W 29 hf) (fun hc => ok_loadAggS 7 tu28 rfl size28 (o2 s5 e_w11 hx (r0 hf)) rfl)
  refine ocg 29 ?_ (fun A W hx hf => ?_) ?_
  rfl
  exact gd_f (q1 ?b18_1 A W 29 hf) (fun hc => ok_movE (a0 := a17) (r0 hf))
  refine ocg 29 ?_ (fun A W hx hf => ?_) ?_
  rfl
  exact gd_f (q2 ?b18_1 A W 29 hf) (fun hc => ok_call2 body32 (c_may (show Is (TupV T) _ _ from (G.get (q0 ?b18_3 A W 30 hf) hc)) (p2 s2 e_w hx (G.get (q1 ?b18_4 A W 31 hf) hc)) (by exact hT9)))
  refine ocg 29 ?_ (fun A W hx hf => ?_) ?_
  rfl
  exact gd_f (q1 ?b18_1 A W 29 hf) (fun hc => ok_not (G.get (q0 ?b18_5 A W 32 hf) hc))
  apply oc0; intro A W hx hf
  exact ok_or (q0 ?b18_1 A W 29 hf) (q1 ?b18_6 A W 33 hf)
  exact onn
 case t18 => exact inferInstance
 clear hr; intro a19 w19 x hr hd hs
 revert s10; revert s5; revert s3; revert s2; refine kp4 hs rfl ?_; intro s2 s3 s5 s10
 clear s11
 have s34 := fa ?b18_7 a19 w19 34 (hd 7 34 rfl)
 replace e_w := e_w.trans x
 replace e_w11 := e_w11.trans x
 have e_w17 := x; clear hd hs x
 refine et ?_
 refine wp_cond_split (show _ = _ from s34) (fun hc9 => ?_) (fun hc9 => ?_)
 ·
  have hmk := makeR_no (load := load) (whyL_1 (may_c1 hc9)) (by decide)
  refine sq ?_
  refine wp_reg 95 [[], []] [?b21_0, ?b21_1] mixed hr ?t21 ?o21 ?_
  case o21 =>
   apply oc0; intro A W hx hf
   exact ok_assignv (OwnBA 0 w.heap.size 5 []) (fun _ => ownBA_nil)
   apply oc0; intro A W hx hf
   exact ok_assignc
   exact onn
  case t21 => exact inferInstance
  clear hr; intro a22 w22 x hr hd hs
  clear s2 s3 s5 s10 s34
  have s8 := fa ?b21_0 a22 w22 8 (hd 0 8 rfl)
  have s9 := fa ?b21_1 a22 w22 9 (hd 1 9 rfl)
  replace e_w := e_w.trans x
  clear e_w11
  clear e_w17; clear hd hs x
  refine et ?_
  refine wp_ret ?_
  refine then_ret ?_
  refine ret_tmp2 Try.results12 hr e_w ?_
  first | (rw [hmk]; exact ⟨_, _, rfl, OwnB.mono s8.own hB, s9⟩) | (rw [hmk]; exact ⟨_, _, rfl, OwnB.cast (OwnB.mono s8.own hB) (by first | (rw [makeL_6 h6]; simp; done) | (rw [makeL_4 h6]; simp; done)), s9⟩)
 obtain ⟨k1, k2, k3⟩ := may_c2 hc9
 have hm := mayL_ok k2
 have htl := (linkRight_bd k1).1
 replace s10 := OwnBA.cast s10 (show _ = linkPut (typedL L T.src.six) from by rw [k3])
 refine wp_skip ?_
 refine es ?_
 refine wp_reg 95 [[(3, none)], [(35, some 0)], [(36, some 1)], [(37, some 2)]] [?b23_0, ?b23_1, ?b23_2, ?b23_2] mixed hr ?t23 ?o23 ?_
 case o23 =>
  apply oc0; intro A W hx hf
  exact ok_movE (a0 := a19) (r0 hf)
  apply oc0; intro A W hx hf
  exact ok_len_bs tu22 (p2 s3 e_w hx (q0 ?b23_0 A W 35 hf))
  apply oc0; intro A W hx hf
  exact ok_addI (ec A (.int .i64 8)) (q0 ?b23_1 A W 36 hf) (by omega)
  apply oc0; intro A W hx hf
  exact ok_assign (q0 ?b23_2 A W 37 hf)
  exact onn
 case t23 => exact inferInstance
 clear hr; intro a24 w24 x hr hd hs
 revert s10; revert s5; revert s3; revert s2; refine kp4 hs rfl ?_; intro s2 s3 s5 s10
 clear s34
 have s12 := fa ?b23_2 a24 w24 12 (hd 3 12 rfl)
 replace e_w := e_w.trans x
 replace e_w11 := e_w11.trans x
 replace e_w17 := e_w17.trans x; clear hd hs x
 refine es ?_
 refine sq ?_
 refine wp_reg 95 [[(5, none)], [(38, some 0)], [(39, some 1)]] [?b25_0, ?b25_1, ?b25_2] mixed hr ?t25 ?o25 ?_
 case o25 =>
  apply oc0; intro A W hx hf
  exact ok_fieldS 4 tu28 (k := 2) rfl size3 rfl (o2 s5 e_w11 hx (r0 hf)) rfl
  apply oc0; intro A W hx hf
  exact ok_loadS tu3 rfl (q0 ?b25_0 A W 38 hf) rfl
  apply oc0; intro A W hx hf
  exact ok_eql (q0 ?b25_1 A W 39 hf) (ec A (.int .i64 6))
  exact onn
 case t25 => exact inferInstance
 clear hr; intro a26 w26 x hr hd hs
 revert s12; revert s10; revert s5; revert s3; revert s2; refine kp5 hs rfl ?_; intro s2 s3 s5 s10 s12
 have s40 := fa ?b25_2 a26 w26 40 (hd 2 40 rfl)
 replace e_w := e_w.trans x
 replace e_w11 := e_w11.trans x
 replace e_w17 := e_w17.trans x
 have e_w24 := x; clear hd hs x
 refine et ?_
 refine wp_cut (fun A W => Fr 95 A ∧ Same D_c_pkMake_1 a26 A ∧ Ext w W ∧ (PxS g3_5 w.heap.size [1, 16, 1, 16, 1, 1, 1] (tupS T) 0) (A.eval (.tmp 5)) W ∧ (OwnBA g17_10 w.heap.size 5 (linkPut (typedL L T.src.six))) (A.eval (.tmp 10)) W ∧ (Is (.int .i64 (segN T load))) (A.eval (.tmp 12)) W) ?cut27 ?_
 case cut27 =>
  have m27 : Same D_c_pkMake_1 a26 a26 := Same.rfl
  refine wp_cond_split (show _ = _ from s40) (fun h40 => ?_) (fun h40 => ?_)
  ·
   have h40 : T.proto = 6 := by simpa using h40
   refine wp_reg 95 [[(3, none)], [(41, some 0)], [(42, some 1)], [(43, some 2)]] [?b29_0, ?b29_1, ?b29_2, ?b29_2] mixed hr ?t29 ?o29 ?_
   case o29 =>
    apply oc0; intro A W hx hf
    exact ok_movE (a0 := a26) (r0 hf)
    apply oc0; intro A W hx hf
    exact ok_len_bs tu22 (p2 s3 e_w hx (q0 ?b29_0 A W 41 hf))
    apply oc0; intro A W hx hf
    exact ok_addI (ec A (.int .i64 20)) (q0 ?b29_1 A W 42 hf) (by omega)
    apply oc0; intro A W hx hf
    exact ok_assign (q0 ?b29_2 A W 43 hf)
    exact onn
   case t29 => exact inferInstance
   clear hr; intro a30 w30 x hr hd hs
   revert s10; revert s5; revert s3; revert s2; refine kp4 hs rfl ?_; intro s2 s3 s5 s10
   clear s12 s40
   have s12 := fa ?b29_2 a30 w30 12 (hd 3 12 rfl)
   replace e_w := e_w.trans x
   replace e_w11 := e_w11.trans x
   replace e_w17 := e_w17.trans x
   clear e_w24
   replace m27 := m27.tr hs rfl; clear hd hs x
   refine et ?_
   refine ⟨hr, m27, e_w, ?_, ?_, ?_⟩
   · exact (later e_w11 s5)
   · exact (later e_w17 s10)
   · first | exact Is.int s12 (segN_6 h40).symm | exact Is.int s12 (segN_17 h40 k2).symm
  have h40 : T.proto ≠ 6 := by simpa using h40
  refine wp_skip ?_
  refine et ?_
  refine ⟨hr, m27, e_w, ?_, ?_, ?_⟩
  · exact (later e_w11 s5)
  · exact (later e_w17 s10)
  · first | exact Is.int (later e_w24 s12) (segN_6 h40).symm | exact Is.int (later e_w24 s12) (segN_17 h40 k2).symm
 intro a27 w27 hI
 clear e_w
 clear e_w11
 clear e_w17
 clear e_w24
 clear hr; obtain ⟨hr, hs, e_w, u5, u10, u12⟩ := hI
 revert s3; revert s2; refine kp2 hs rfl ?_; intro s2 s3
 clear s5 s10 s12 s40
 have s5 := u5; clear u5
 have s10 := u10; clear u10
 have s12 := u12; clear u12
 clear hs
 refine sq ?_
 refine sq ?_
 refine wp_reg 95 [[(5, none)], [(44, some 0)], [(45, some 1)]] [?b31_0, ?b31_1, ?b31_2] mixed hr ?t31 ?o31 ?_
 case o31 =>
  apply oc0; intro A W hx hf
  exact ok_fieldS 0 tu28 (k := 0) rfl size26 rfl (o1 s5 hx (r0 hf)) rfl
  apply oc0; intro A W hx hf
  exact ok_fieldS 0 tu26 (k := 0) rfl size4 rfl (q0 ?b31_0 A W 44 hf) rfl
  apply oc0; intro A W hx hf
  exact ok_loadS tu4 rfl (q0 ?b31_1 A W 45 hf) rfl
  exact onn
 case t31 => exact inferInstance
 clear hr; intro a32 w32 x hr hd hs
 revert s12; revert s10; revert s5; revert s3; revert s2; refine kp5 hs rfl ?_; intro s2 s3 s5 s10 s12
 have s46 := fa ?b31_2 a32 w32 46 (hd 2 46 rfl)
 replace e_w := e_w.trans x
 have e_w27 := x; clear hd hs x
 refine et ?_
 refine wp_cond_split (show _ = _ from s46) (fun h6 => ?_) (fun h6 => ?_)
 ·
  skip
  refine sq ?_
  refine sq ?_
  refine wp_reg 95 [[(12, none)], [(47, some 0)], [(48, some 1)]] [?b34_0, ?b34_1, ?b34_2] mixed hr ?t34 ?o34 ?_
  case o34 =>
   apply oc0; intro A W hx hf
   exact ok_movE (a0 := a32) (r0 hf)
   apply oc0; intro A W hx hf
   exact ok_addI (ec A (.int .i64 40)) (p2 s12 e_w27 hx (q0 ?b34_0 A W 47 hf)) (by omega)
   apply oc0; intro A W hx hf
   exact ok_gtr (q0 ?b34_1 A W 48 hf) (ec A (.int .i64 65535))
   exact onn
  case t34 => exact inferInstance
  clear hr; intro a35 w35 x hr hd hs
  revert s12; revert s10; revert s5; revert s3; revert s2; refine kp5 hs rfl ?_; intro s2 s3 s5 s10 s12
  clear s46
  have s49 := fa ?b34_2 a35 w35 49 (hd 2 49 rfl)
  replace e_w := e_w.trans x
  replace e_w27 := e_w27.trans x; clear hd hs x
  refine et ?_
  refine wp_cond_split (show _ = _ from s49) (fun hb => ?_) (fun hb => ?_)
  ·
   have hmk := makeR_no (load := load) (whyL_4 k1 k2 (by rw [h6]; simp at hb; simp; omega)) (by decide)
   refine sq ?_
   refine wp_reg 95 [[], []] [?b37_0, ?b37_1] mixed hr ?t37 ?o37 ?_
   case o37 =>
    apply oc0; intro A W hx hf
    exact ok_assignv (OwnBA 0 w.heap.size 5 []) (fun _ => ownBA_nil)
    apply oc0; intro A W hx hf
    exact ok_assignc
    exact onn
   case t37 => exact inferInstance
   clear hr; intro a38 w38 x hr hd hs
   clear s2 s3 s5 s10 s12 s49
   have s8 := fa ?b37_0 a38 w38 8 (hd 0 8 rfl)
   have s9 := fa ?b37_1 a38 w38 9 (hd 1 9 rfl)
   replace e_w := e_w.trans x
   clear e_w27; clear hd hs x
   refine et ?_
   refine wp_ret ?_
   refine then_ret ?_
   refine then_ret ?_
   refine ret_tmp2 Try.results12 hr e_w ?_
   first | (rw [hmk]; exact ⟨_, _, rfl, OwnB.mono s8.own hB, s9⟩) | (rw [hmk]; exact ⟨_, _, rfl, OwnB.cast (OwnB.mono s8.own hB) (by first | (rw [makeL_6 h6]; simp; done) | (rw [makeL_4 h6]; simp; done)), s9⟩)
  have hb2 : 40 + segN T load ≤ 65535 := by simpa using hb
  have hw0 := whyL_0 (n := load.length) k1 k2 (by rw [h6]; simp; omega)
  have hmk := makeR_0 hw0
  have hrt := six40_right (n := segN T load) hm h6 (by omega)
  have hsk := seg_ok (load := load) hm (by omega)
  have hfl := fill_len (Sa := T.src) (Da := T.dst) hsk
  have hk40 := sixPut_len (H := six40 T (segN T load)) hT9
  refine wp_skip ?_
  refine es ?_
  refine wp_reg 95 [[(12, none)], [(51, some 0)], [(5, none)], [(53, some 2)], [(5, none)], [(55, some 4)], [(5, none)], [(57, some 6)], [(52, some 1), (54, some 3), (56, some 5), (58, some 7)], [(59, some 8)], [(60, some 9)], [(50, some 10)], [(50, some 10)], [(61, some 11)], [(62, some 12)]] [?b39_0, ?b39_1, ?b39_2, ?b39_3, ?b39_4, ?b39_5, ?b39_6, ?b39_7, ?b39_8, ?b39_9, ?b39_9, ?b39_11, ?b39_12, ?b39_11, ?b39_12] mixed hr ?t39 ?o39 ?_
  case o39 =>
   apply oc0; intro A W hx hf
   exact ok_movE (a0 := a35) (r0 hf)
   apply oc0; intro A W hx hf
   exact ok_addI (ec A (.int .i64 40)) (p2 s12 e_w27 hx (q0 ?b39_0 A W 51 hf)) (by omega)
   apply oc0; intro A W hx hf
   exact ok_fieldS 4 tu28 (k := 2) rfl size3 rfl (o2 s5 e_w27 hx (r0 hf)) rfl
   apply oc0; intro A W hx hf
   exact ok_loadS tu3 rfl (q0 ?b39_2 A W 53 hf) rfl
   apply oc0; intro A W hx hf
   exact ok_fieldS 0 tu28 (k := 0) rfl size26 rfl (o2 s5 e_w27 hx (r0 hf)) rfl
   apply oc0; intro A W hx hf
   exact ok_loadAggS 2 tu26 rfl size26 (q0 ?b39_4 A W 55 hf) rfl
   apply oc0; intro A W hx hf
   exact ok_fieldS 2 tu28 (k := 1) rfl size26 rfl (o2 s5 e_w27 hx (r0 hf)) rfl
   apply oc0; intro A W hx hf
   exact ok_loadAggS 4 tu26 rfl size26 (q0 ?b39_6 A W 57 hf) rfl
   apply oc0; intro A W hx hf
   exact ok_buildS [(0, (.const (.int .i64 40))), (1, (.tmp 52)), (2, (.const (.int .i64 64))), (5, (.tmp 54)), (6, (.tmp 56)), (7, (.tmp 58))] [(0, _), (1, _), (2, _), (5, _), (6, _), (7, _)] lay75 rfl (PartsC.one (ec A (.int .i64 40)) rfl (PartsC.one (q0 ?b39_1 A W 52 hf) rfl (PartsC.one (ec A (.int .i64 64)) rfl (PartsC.one (q1 ?b39_3 A W 54 hf) rfl (PartsC.agg (q2 ?b39_5 A W 56 hf) (PartsC.agg (q3 ?b39_7 A W 58 hf) (PartsC.nil))))))) (by simp [tupS, hs16, hd16])
   apply oc0; intro A W hx hf
   exact ok_call1 body33 (c_xPut (Is.conv (q0 ?b39_8 A W 59 hf) (show _ = SixV (six40 T (segN T load)) from by simp [SixV, sixS, six40, adrCells, setAll, tupS])) (by exact hT9) hx.size)
   apply oc0; intro A W hx hf
   exact ok_move (q0 ?b39_9 A W 60 hf)
   apply oc0; intro A W hx hf
   exact ok_ext0 (q0 ?b39_9 A W 50 hf)
   apply oc0; intro A W hx hf
   exact ok_ext1 (q0 ?b39_9 A W 50 hf)
   apply oc0; intro A W hx hf
   exact ok_assign (q0 ?b39_11 A W 61 hf)
   apply oc0; intro A W hx hf
   exact ok_assign (q0 ?b39_12 A W 62 hf)
   exact onn
  case t39 => exact inferInstance
  clear hr; intro a40 w40 x hr hd hs
  have z_w_w35 := e_w.size
  have z_w27_w35 := e_w27.size
  have l40_5 := PxS.lt (later e_w27 s5)
  have l40_10 := OwnBA.lt (later e_w27 s10)
  revert s10; revert s5; revert s3; revert s2; refine kp4 hs rfl ?_; intro s2 s3 s5 s10
  clear s12 s49
  have s13 := fa ?b39_11 a40 w40 13 (hd 13 13 rfl)
  obtain ⟨g40_13, q40_13⟩ := OwnB.at s13; clear s13; have n40_13 := OwnBA.lt q40_13
  replace q40_13 := OwnBA.mono q40_13 e_w.size
  have s13 := q40_13; clear q40_13
  replace e_w := e_w.trans x
  replace e_w27 := e_w27.trans x; clear hd hs x
  replace s13 := OwnBA.cast s13 (show _ = sixPut (six40 T (segN T load)) from by unfold sixPutR; rw [if_pos hrt])
  refine es ?_
  refine wp_reg 95 [[(10, none)], [(13, none)], [(5, none)], [(2, none)], [(3, none)], [(65, some 2), (66, some 3), (67, some 4)], [(63, some 0), (64, some 1), (68, some 5)], [(69, some 6)], [(70, some 7)], []] [?b41_0, ?b41_1, ?b41_2, ?b41_3, ?b41_4, ?b41_5, ?b41_6, ?b41_7, ?b41_7, ?b41_9] mixed hr ?t41 ?o41 ?_
  case o41 =>
   apply oc0; intro A W hx hf
   exact ok_movE (a0 := a40) (r0 hf)
   apply oc0; intro A W hx hf
   exact ok_movE (a0 := a40) (r0 hf)
   apply oc0; intro A W hx hf
   exact ok_loadAggS 7 tu28 rfl size28 (o2 s5 e_w27 hx (r0 hf)) rfl
   apply oc0; intro A W hx hf
   exact ok_movE (a0 := a40) (r0 hf)
   apply oc0; intro A W hx hf
   exact ok_movE (a0 := a40) (r0 hf)
   apply oc0; intro A W hx hf
   exact ok_call3 body35 (c_seg (show Is (TupV T) _ _ from (q0 ?b41_2 A W 65 hf)) (p2 s2 e_w hx (q1 ?b41_3 A W 66 hf)) (p2 s3 e_w hx (q2 ?b41_4 A W 67 hf)) (by exact hT9) (by exact hm) (by omega) hx.size)
   apply oc0; intro A W hx hf
   exact ok_buildBss [(.tmp 63), (.tmp 64), (.tmp 68)] [_, _, _] tu107 size22 zero22 rfl rfl (by decide) (PartsOk.cons (OwnBA.bs (p2 s10 e_w27 hx (q0 ?b41_0 A W 63 hf))) (PartsOk.cons (OwnBA.bs (p1 s13 hx (q1 ?b41_1 A W 64 hf))) (PartsOk.cons (OwnB.bs (q2 ?b41_5 A W 68 hf)) (PartsOk.nil))))
   apply oc0; intro A W hx hf
   exact ok_call1 body34 (c_concat (q0 ?b41_6 A W 69 hf) hx.size (by (simp only [List.flatten_cons, List.flatten_nil, List.append_nil, List.length_append]; omega)))
   apply oc0; intro A W hx hf
   exact ok_assign (q0 ?b41_7 A W 70 hf)
   apply oc0; intro A W hx hf
   exact ok_assignc
   exact onn
  case t41 => exact inferInstance
  clear hr; intro a42 w42 x hr hd hs
  have z_w_w40 := e_w.size
  have z_w27_w40 := e_w27.size
  have l42_5 := PxS.lt (later e_w27 s5)
  have l42_10 := OwnBA.lt (later e_w27 s10)
  have l42_13 := OwnBA.lt s13
  clear s2 s3 s5 s10 s13
  have s8 := fa ?b41_7 a42 w42 8 (hd 8 8 rfl)
  have s9 := fa ?b41_9 a42 w42 9 (hd 9 9 rfl)
  obtain ⟨g42_8, q42_8⟩ := OwnB.at s8; clear s8; have n42_8 := OwnBA.lt q42_8
  replace q42_8 := OwnBA.mono q42_8 e_w.size
  have s8 := q42_8; clear q42_8
  replace e_w := e_w.trans x
  clear e_w27; clear hd hs x
  refine et ?_
  refine wp_ret ?_
  refine then_ret ?_
  refine ret_tmp2 Try.results12 hr e_w ?_
  first | (rw [hmk]; exact ⟨_, _, rfl, OwnB.mono s8.own hB, s9⟩) | (rw [hmk]; exact ⟨_, _, rfl, OwnB.cast (OwnB.mono s8.own hB) (by first | (rw [makeL_6 h6]; simp; done) | (rw [makeL_4 h6]; simp; done)), s9⟩)
 skip
 refine wp_skip ?_
 refine es ?_
 refine sq ?_
 refine wp_reg 95 [[(12, none)], [(71, some 0)], [(72, some 1)]] [?b43_0, ?b43_1, ?b43_2] mixed hr ?t43 ?o43 ?_
 case o43 =>
  apply oc0; intro A W hx hf
  exact ok_movE (a0 := a32) (r0 hf)
  apply oc0; intro A W hx hf
  exact ok_addI (ec A (.int .i64 20)) (p2 s12 e_w27 hx (q0 ?b43_0 A W 71 hf)) (by omega)
  apply oc0; intro A W hx hf
  exact ok_gtr (q0 ?b43_1 A W 72 hf) (ec A (.int .i64 65535))
  exact onn
 case t43 => exact inferInstance
 clear hr; intro a44 w44 x hr hd hs
 revert s12; revert s10; revert s5; revert s3; revert s2; refine kp5 hs rfl ?_; intro s2 s3 s5 s10 s12
 clear s46
 have s73 := fa ?b43_2 a44 w44 73 (hd 2 73 rfl)
 replace e_w := e_w.trans x
 replace e_w27 := e_w27.trans x; clear hd hs x
 refine et ?_
 refine wp_cond_split (show _ = _ from s73) (fun hb => ?_) (fun hb => ?_)
 ·
  have hmk := makeR_no (load := load) (whyL_4 k1 k2 (by rw [h6]; simp at hb; simp; omega)) (by decide)
  refine sq ?_
  refine wp_reg 95 [[], []] [?b46_0, ?b46_1] mixed hr ?t46 ?o46 ?_
  case o46 =>
   apply oc0; intro A W hx hf
   exact ok_assignv (OwnBA 0 w.heap.size 5 []) (fun _ => ownBA_nil)
   apply oc0; intro A W hx hf
   exact ok_assignc
   exact onn
  case t46 => exact inferInstance
  clear hr; intro a47 w47 x hr hd hs
  clear s2 s3 s5 s10 s12 s73
  have s8 := fa ?b46_0 a47 w47 8 (hd 0 8 rfl)
  have s9 := fa ?b46_1 a47 w47 9 (hd 1 9 rfl)
  replace e_w := e_w.trans x
  clear e_w27; clear hd hs x
  refine et ?_
  refine wp_ret ?_
  refine then_ret ?_
  refine ret_tmp2 Try.results12 hr e_w ?_
  first | (rw [hmk]; exact ⟨_, _, rfl, OwnB.mono s8.own hB, s9⟩) | (rw [hmk]; exact ⟨_, _, rfl, OwnB.cast (OwnB.mono s8.own hB) (by first | (rw [makeL_6 h6]; simp; done) | (rw [makeL_4 h6]; simp; done)), s9⟩)
 have hb2 : 20 + segN T load ≤ 65535 := by simpa using hb
 have hw0 := whyL_0 (n := load.length) k1 k2 (by rw [h6]; simp; omega)
 have hmk := makeR_0 hw0
 have hrt := four20_right (n := segN T load) hm h6 (by omega)
 have hsk := seg_ok (load := load) hm (by omega)
 have hfl := fill_len (Sa := T.src) (Da := T.dst) hsk
 have hk40 := fourPut_len (H := four20 T (segN T load)) hT9
 refine wp_skip ?_
 refine es ?_
 refine wp_reg 95 [[(12, none)], [(75, some 0)], [(5, none)], [(77, some 2)], [(5, none)], [(79, some 4)], [(5, none)], [(81, some 6)], [(76, some 1), (78, some 3), (80, some 5), (82, some 7)], [(83, some 8)], [(84, some 9)], [(74, some 10)], [(74, some 10)], [(85, some 11)], [(86, some 12)]] [?b48_0, ?b48_1, ?b48_2, ?b48_3, ?b48_4, ?b48_5, ?b48_6, ?b48_7, ?b48_8, ?b48_9, ?b48_9, ?b48_11, ?b48_12, ?b48_11, ?b48_12] mixed hr ?t48 ?o48 ?_
 case o48 =>
  apply oc0; intro A W hx hf
  exact ok_movE (a0 := a44) (r0 hf)
  apply oc0; intro A W hx hf
  exact ok_addI (ec A (.int .i64 20)) (p2 s12 e_w27 hx (q0 ?b48_0 A W 75 hf)) (by omega)
  apply oc0; intro A W hx hf
  exact ok_fieldS 4 tu28 (k := 2) rfl size3 rfl (o2 s5 e_w27 hx (r0 hf)) rfl
  apply oc0; intro A W hx hf
  exact ok_loadS tu3 rfl (q0 ?b48_2 A W 77 hf) rfl
  apply oc0; intro A W hx hf
  exact ok_fieldS 0 tu28 (k := 0) rfl size26 rfl (o2 s5 e_w27 hx (r0 hf)) rfl
  apply oc0; intro A W hx hf
  exact ok_loadAggS 2 tu26 rfl size26 (q0 ?b48_4 A W 79 hf) rfl
  apply oc0; intro A W hx hf
  exact ok_fieldS 2 tu28 (k := 1) rfl size26 rfl (o2 s5 e_w27 hx (r0 hf)) rfl
  apply oc0; intro A W hx hf
  exact ok_loadAggS 4 tu26 rfl size26 (q0 ?b48_6 A W 81 hf) rfl
  apply oc0; intro A W hx hf
  exact ok_buildS [(0, (.const (.int .i64 20))), (1, (.tmp 76)), (5, (.const (.bool true))), (6, (.const (.int .i64 64))), (7, (.tmp 78)), (8, (.tmp 80)), (9, (.tmp 82))] [(0, _), (1, _), (5, _), (6, _), (7, _), (8, _), (9, _)] lay71 rfl (PartsC.one (ec A (.int .i64 20)) rfl (PartsC.one (q0 ?b48_1 A W 76 hf) rfl (PartsC.one (ec A (.bool true)) rfl (PartsC.one (ec A (.int .i64 64)) rfl (PartsC.one (q1 ?b48_3 A W 78 hf) rfl (PartsC.agg (q2 ?b48_5 A W 80 hf) (PartsC.agg (q3 ?b48_7 A W 82 hf) (PartsC.nil)))))))) (by simp [tupS, hs16, hd16])
  apply oc0; intro A W hx hf
  exact ok_call1 body36 (c_four_Put (Is.conv (q0 ?b48_8 A W 83 hf) (show _ = FourV (four20 T (segN T load)) from by simp [FourV, fourS, four20, adrCells, setAll, tupS])) (by exact hT9) hx.size)
  apply oc0; intro A W hx hf
  exact ok_move (q0 ?b48_9 A W 84 hf)
  apply oc0; intro A W hx hf
  exact ok_ext0 (q0 ?b48_9 A W 74 hf)
  apply oc0; intro A W hx hf
  exact ok_ext1 (q0 ?b48_9 A W 74 hf)
  apply oc0; intro A W hx hf
  exact ok_assign (q0 ?b48_11 A W 85 hf)
  apply oc0; intro A W hx hf
  exact ok_assign (q0 ?b48_12 A W 86 hf)
  exact onn
 case t48 => exact inferInstance
 clear hr; intro a49 w49 x hr hd hs
 have z_w_w44 := e_w.size
 have z_w27_w44 := e_w27.size
 have l49_5 := PxS.lt (later e_w27 s5)
 have l49_10 := OwnBA.lt (later e_w27 s10)
 revert s10; revert s5; revert s3; revert s2; refine kp4 hs rfl ?_; intro s2 s3 s5 s10
 clear s12 s73
 have s15 := fa ?b48_11 a49 w49 15 (hd 13 15 rfl)
 obtain ⟨g49_15, q49_15⟩ := OwnB.at s15; clear s15; have n49_15 := OwnBA.lt q49_15
 replace q49_15 := OwnBA.mono q49_15 e_w.size
 have s15 := q49_15; clear q49_15
 replace e_w := e_w.trans x
 replace e_w27 := e_w27.trans x; clear hd hs x
 replace s15 := OwnBA.cast s15 (show _ = fourPut (four20 T (segN T load)) from by unfold fourPutR; rw [if_pos hrt])
 refine es ?_
 refine wp_reg 95 [[(10, none)], [(15, none)], [(5, none)], [(2, none)], [(3, none)], [(89, some 2), (90, some 3), (91, some 4)], [(87, some 0), (88, some 1), (92, some 5)], [(93, some 6)], [(94, some 7)], []] [?b50_0, ?b50_1, ?b50_2, ?b50_3, ?b50_4, ?b50_5, ?b50_6, ?b50_7, ?b50_7, ?b50_9] mixed hr ?t50 ?o50 ?_
 case o50 =>
  apply oc0; intro A W hx hf
  exact ok_movE (a0 := a49) (r0 hf)
  apply oc0; intro A W hx hf
  exact ok_movE (a0 := a49) (r0 hf)
  apply oc0; intro A W hx hf
  exact ok_loadAggS 7 tu28 rfl size28 (o2 s5 e_w27 hx (r0 hf)) rfl
  apply oc0; intro A W hx hf
  exact ok_movE (a0 := a49) (r0 hf)
  apply oc0; intro A W hx hf
  exact ok_movE (a0 := a49) (r0 hf)
  apply oc0; intro A W hx hf
  exact ok_call3 body35 (c_seg (show Is (TupV T) _ _ from (q0 ?b50_2 A W 89 hf)) (p2 s2 e_w hx (q1 ?b50_3 A W 90 hf)) (p2 s3 e_w hx (q2 ?b50_4 A W 91 hf)) (by exact hT9) (by exact hm) (by omega) hx.size)
  apply oc0; intro A W hx hf
  exact ok_buildBss [(.tmp 87), (.tmp 88), (.tmp 92)] [_, _, _] tu107 size22 zero22 rfl rfl (by decide) (PartsOk.cons (OwnBA.bs (p2 s10 e_w27 hx (q0 ?b50_0 A W 87 hf))) (PartsOk.cons (OwnBA.bs (p1 s15 hx (q1 ?b50_1 A W 88 hf))) (PartsOk.cons (OwnB.bs (q2 ?b50_5 A W 92 hf)) (PartsOk.nil))))
  apply oc0; intro A W hx hf
  exact ok_call1 body34 (c_concat (q0 ?b50_6 A W 93 hf) hx.size (by (simp only [List.flatten_cons, List.flatten_nil, List.append_nil, List.length_append]; omega)))
  apply oc0; intro A W hx hf
  exact ok_assign (q0 ?b50_7 A W 94 hf)
  apply oc0; intro A W hx hf
  exact ok_assignc
  exact onn
 case t50 => exact inferInstance
 clear hr; intro a51 w51 x hr hd hs
 have z_w_w49 := e_w.size
 have z_w27_w49 := e_w27.size
 have l51_5 := PxS.lt (later e_w27 s5)
 have l51_10 := OwnBA.lt (later e_w27 s10)
 have l51_15 := OwnBA.lt s15
 clear s2 s3 s5 s10 s15
 have s8 := fa ?b50_7 a51 w51 8 (hd 8 8 rfl)
 have s9 := fa ?b50_9 a51 w51 9 (hd 9 9 rfl)
 obtain ⟨g51_8, q51_8⟩ := OwnB.at s8; clear s8; have n51_8 := OwnBA.lt q51_8
 replace q51_8 := OwnBA.mono q51_8 e_w.size
 have s8 := q51_8; clear q51_8
 replace e_w := e_w.trans x
 clear e_w27; clear hd hs x
 refine et ?_
 refine wp_ret ?_
 refine ret_tmp2 Try.results12 hr e_w ?_
 first | (rw [hmk]; exact ⟨_, _, rfl, OwnB.mono s8.own hB, s9⟩) | (rw [hmk]; exact ⟨_, _, rfl, OwnB.cast (OwnB.mono s8.own hB) (by first | (rw [makeL_6 h6]; simp; done) | (rw [makeL_4 h6]; simp; done)), s9⟩)

end Go.Proofs.Ytpjpfmnnefgnbaa
