import Derived.Test.YtpjpfmnnefgnbaaC01
import Derived.Test.YtpjpfmnnefgnbaaC06
import Derived.Test.YtpjpfmnnefgnbaaS07
import Derived.Test.YtpjpfmnnefgnbaaE07
namespace Go.Proofs.Ytpjpfmnnefgnbaa
open Go.RowKit
set_option linter.unusedVariables false
set_option linter.unusedSimpArgs false
set_option maxRecDepth 4000
theorem c_ltag {x0 : Value} {w : World} {n : Int} (h0 : (Is (.int .i64 n)) x0 w)  :
    Calls Try.prog 47 #[x0] w (Ret (Is (.bool (tagB n))) w) := by
 refine enter Try.func47 rfl Try.ntmps47 (k := 1) rfl (by decide) (fun a0 hr hargs => ?_)
 have s0 := sarg h0 (hargs 0 (by decide))
 clear hargs
 refine sq ?_
 refine wp_reg 9 [[]] [?b1_0] mixed hr ?t1 ?o1 ?_
 case o1 =>
  apply oc0; intro A W hx hf
  exact ok_assignc
  exact onn
 case t1 => exact inferInstance
 clear hr; intro a2 w2 x hr hd hs
 revert s0; refine kp1 hs rfl ?_; intro s0
 have e_w := x; clear hd hs x
 refine es ?_
 refine wp_reg 9 [[(0, none)], [(3, some 0)], [(4, some 1)], [(0, none), (5, some 2)], [(6, some 3), (5, some 2)], [(5, some 2), (7, some 4)], [(8, some 5)]] [?b3_0, ?b3_1, ?b3_1, ?b3_3, ?b3_4, ?b3_5, ?b3_5] mixed hr ?t3 ?o3 ?_
 case o3 =>
  apply oc0; intro A W hx hf
  exact ok_movE (a0 := a2) (r0 hf)
  apply oc0; intro A W hx hf
  exact ok_eql (p2 s0 e_w hx (q0 ?b3_0 A W 3 hf)) (ec A (.int .i64 33024))
  apply oc0; intro A W hx hf
  exact ok_move (q0 ?b3_1 A W 4 hf)
  refine ocg 5 ?_ (fun A W hx hf => ?_) ?_
  rfl
  exact gd_f (q1 ?b3_1 A W 5 hf) (fun hc => ok_movE (a0 := a2) (r0 hf))
  refine ocg 5 ?_ (fun A W hx hf => ?_) ?_
  rfl
  exact gd_f (q1 ?b3_1 A W 5 hf) (fun hc => ok_eql (p2 s0 e_w hx (G.get (q0 ?b3_3 A W 6 hf) hc)) (ec A (.int .i64 34984)))
  apply oc0; intro A W hx hf
  exact ok_or (q0 ?b3_1 A W 5 hf) (q1 ?b3_4 A W 7 hf)
  apply oc0; intro A W hx hf
  exact ok_assign (q0 ?b3_5 A W 8 hf)
  exact onn
 case t3 => exact inferInstance
 clear hr; intro a4 w4 x hr hd hs
 clear s0
 have s2 := fa ?b3_5 a4 w4 2 (hd 6 2 rfl)
 replace e_w := e_w.trans x; clear hd hs x
 refine et ?_
 refine wp_ret ?_
 refine ret_tmp Try.results47 hr e_w ?_
 exact Is.bool s2 rfl

theorem c_lin {x0 : Value} {w : World} {n : Int} (h0 : (Is (.int .i64 n)) x0 w)  :
    Calls Try.prog 58 #[x0] w (Ret (Is (.bool (inW n))) w) := by
 refine enter Try.func58 rfl Try.ntmps58 (k := 1) rfl (by decide) (fun a0 hr hargs => ?_)
 have s0 := sarg h0 (hargs 0 (by decide))
 clear hargs
 refine sq ?_
 refine wp_reg 9 [[]] [?b1_0] mixed hr ?t1 ?o1 ?_
 case o1 =>
  apply oc0; intro A W hx hf
  exact ok_assignc
  exact onn
 case t1 => exact inferInstance
 clear hr; intro a2 w2 x hr hd hs
 revert s0; refine kp1 hs rfl ?_; intro s0
 have e_w := x; clear hd hs x
 refine es ?_
 refine wp_reg 9 [[(0, none)], [(3, some 0)], [(4, some 1)], [(0, none), (5, some 2)], [(6, some 3), (5, some 2)], [(5, some 2), (7, some 4)], [(8, some 5)]] [?b3_0, ?b3_1, ?b3_1, ?b3_3, ?b3_4, ?b3_5, ?b3_5] mixed hr ?t3 ?o3 ?_
 case o3 =>
  apply oc0; intro A W hx hf
  exact ok_movE (a0 := a2) (r0 hf)
  apply oc0; intro A W hx hf
  exact ok_geq (p2 s0 e_w hx (q0 ?b3_0 A W 3 hf)) (ec A (.int .i64 0))
  apply oc0; intro A W hx hf
  exact ok_move (q0 ?b3_1 A W 4 hf)
  refine ocg 5 ?_ (fun A W hx hf => ?_) ?_
  rfl
  exact gd_t (q1 ?b3_1 A W 5 hf) (fun hc => ok_movE (a0 := a2) (r0 hf))
  refine ocg 5 ?_ (fun A W hx hf => ?_) ?_
  rfl
  exact gd_t (q1 ?b3_1 A W 5 hf) (fun hc => ok_leq (p2 s0 e_w hx (G.get (q0 ?b3_3 A W 6 hf) hc)) (ec A (.int .i64 65535)))
  apply oc0; intro A W hx hf
  exact ok_and (q0 ?b3_1 A W 5 hf) (q1 ?b3_4 A W 7 hf)
  apply oc0; intro A W hx hf
  exact ok_assign (q0 ?b3_5 A W 8 hf)
  exact onn
 case t3 => exact inferInstance
 clear hr; intro a4 w4 x hr hd hs
 clear s0
 have s2 := fa ?b3_5 a4 w4 2 (hd 6 2 rfl)
 replace e_w := e_w.trans x; clear hd hs x
 refine et ?_
 refine wp_ret ?_
 refine ret_tmp Try.results58 hr e_w ?_
 exact Is.bool s2 rfl

theorem c_lnum {x0 : Value} {w : World} {l : List UInt8} (h0 : (Bs l) x0 w) (h2 : 2 ≤ l.length) :
    Calls Try.prog 46 #[x0] w (Ret (Is (.int .i64 (wordAt l 0))) w) := by
 have hlen := Bs.len_le h0
 have hbe := be_two (l := l) (i := 0) (by omega)
 have hw := wordAt_bd l 0
 have h8 : (l.take 2).take 8 = subl l 0 (0 + 2) := by rw [List.take_of_length_le (by simp; omega)]; simp [subl]
 refine enter Try.func46 rfl Try.ntmps46 (k := 1) rfl (by decide) (fun a0 hr hargs => ?_)
 have s0 := sarg h0 (hargs 0 (by decide))
 clear hargs
 refine sq ?_
 refine wp_reg 7 [[]] [?b1_0] mixed hr ?t1 ?o1 ?_
 case o1 =>
  apply oc0; intro A W hx hf
  exact ok_assignc
  exact onn
 case t1 => exact inferInstance
 clear hr; intro a2 w2 x hr hd hs
 revert s0; refine kp1 hs rfl ?_; intro s0
 have e_w := x; clear hd hs x
 refine es ?_
 refine wp_reg 7 [[(0, none)], [(3, some 0)], [(4, some 1)], [(5, some 2)], [(6, some 3)]] [?b3_0, ?b3_1, ?b3_2, ?b3_3, ?b3_3] mixed hr ?t3 ?o3 ?_
 case o3 =>
  apply oc0; intro A W hx hf
  exact ok_movE (a0 := a2) (r0 hf)
  apply oc0; intro A W hx hf
  exact ok_slice_hi (2) tu22 size5 (p2 s0 e_w hx (q0 ?b3_0 A W 3 hf)) (ec A (.int .i64 2)) (by omega)
  apply oc0; intro A W hx hf
  exact ok_call2 body72 (c_Get (q0 ?b3_1 A W 4 hf) (show Is (.bool true) (A.eval (.const (.bool true))) _ from rfl))
  apply oc0; intro A W hx hf
  exact ok_convI tu105 tu3 (by rw [h8, hbe]; exact IntWalk.i64_in _ (by omega)) (q0 ?b3_2 A W 5 hf)
  apply oc0; intro A W hx hf
  exact ok_assign (q0 ?b3_3 A W 6 hf)
  exact onn
 case t3 => exact inferInstance
 clear hr; intro a4 w4 x hr hd hs
 clear s0
 have s2 := fa ?b3_3 a4 w4 2 (hd 4 2 rfl)
 replace e_w := e_w.trans x; clear hd hs x
 refine et ?_
 refine wp_ret ?_
 refine ret_tmp Try.results46 hr e_w ?_
 exact Is.int s2 (by rw [h8, hbe])

def D_c_lRead_0 : List Tmp := [3, 22, 23, 24, 25, 26, 27, 28, 29, 30, 31, 32, 33, 34, 35, 36, 37, 38, 39, 40, 41, 42, 43, 44, 45, 46, 47, 48, 49, 50, 51, 52, 53, 54, 55, 56, 57, 58, 59, 60]
set_option maxHeartbeats 1000000 in
theorem c_lRead {x0 : Value} {w : World} {l : List UInt8} {B : Nat} (h0 : (Bs l) x0 w) (hB : B ≤ w.heap.size) :
    Calls Try.prog 22 #[x0] w (Ret (Tup2 (LinkO B 97 (linkRead l).1) (Is (.int .i64 (linkRead l).2))) w) := by
 have hlen := Bs.len_le h0
 refine enter Try.func22 rfl Try.ntmps22 (k := 1) rfl (by decide) (fun a0 hr hargs => ?_)
 have s0 := sarg h0 (hargs 0 (by decide))
 clear hargs
 refine sq ?_
 refine wp_reg 62 [[], []] [?b1_0, ?b1_1] mixed hr ?t1 ?o1 ?_
 case o1 =>
  apply oc0; intro A W hx hf
  exact ok_allocS [(lnkS link0 (.slice none 0 0)).flatten] [15] zerov36 (by rfl) (by rfl) hx.size
  apply oc0; intro A W hx hf
  exact ok_assignc
  exact onn
 case t1 => exact inferInstance
 clear hr; intro a2 w2 x hr hd hs
 revert s0; refine kp1 hs rfl ?_; intro s0
 have s2 := fa ?b1_0 a2 w2 2 (hd 0 2 rfl)
 obtain ⟨g2_2, q2_2⟩ := PxN.at s2; clear s2; have n2_2 := PxS.lt q2_2
 have s2 := q2_2; clear q2_2
 have e_w := x; clear hd hs x
 refine es ?_
 refine sq ?_
 refine wp_reg 62 [[(0, none)], [(5, some 0)], [(6, some 1)]] [?b3_0, ?b3_1, ?b3_2] mixed hr ?t3 ?o3 ?_
 case o3 =>
  apply oc0; intro A W hx hf
  exact ok_movE (a0 := a2) (r0 hf)
  apply oc0; intro A W hx hf
  exact ok_len_bs tu22 (p2 s0 e_w hx (q0 ?b3_0 A W 5 hf))
  apply oc0; intro A W hx hf
  exact ok_lss (q0 ?b3_1 A W 6 hf) (ec A (.int .i64 14))
  exact onn
 case t3 => exact inferInstance
 clear hr; intro a4 w4 x hr hd hs
 revert s2; revert s0; refine kp2 hs rfl ?_; intro s0 s2
 have s7 := fa ?b3_2 a4 w4 7 (hd 2 7 rfl)
 replace e_w := e_w.trans x
 have e_w2 := x; clear hd hs x
 refine et ?_
 refine wp_cond_split (show _ = _ from s7) (fun hl => ?_) (fun hl => ?_)
 ·
  have hl : l.length < 14 := by simp at hl; omega
  have hrd : linkRead l = (link0, 2) := linkGo_end (by omega)
  refine sq ?_
  refine wp_reg_pre (l := [_]) (rest := [_, _]) 62 [[]] [?b6_0] hr ?t6 ?o6 ?_
  case o6 =>
   apply oc0; intro A W hx hf
   exact ok_build0 built36
   exact onn
  case t6 => exact inferInstance
  clear hr; intro a7 w7 x hr hd hs
  revert s2; refine kp1 hs rfl ?_; intro s2
  clear s0 s7
  have s8 := fa ?b6_0 a7 w7 8 (hd 0 8 rfl)
  replace e_w := e_w.trans x
  replace e_w2 := e_w2.trans x; clear hd hs x
  have z8 := PxS.lt (later e_w2 s2)
  have l8 := (show (g2_2 = 0 ∨ w.heap.size < g2_2) ∧ True from ⟨by omega, trivial⟩)
  refine wl_storeSn hr size36 (later e_w2 s2) s8 (by exact lnk_len link0_ok) (by exact lnk_one rfl) rfl ?_; clear hr; intro a8 w8 hc hu hr hs
  have hb : Below w.heap.size w7 w8 := hc.below e_w.size l8.1
  revert s2; refine kp1 hs rfl ?_; intro s2
  clear s8
  replace s2 := hu _ _ _ (later e_w2 s2)
  try simp only [List.set_cons_zero, List.set_cons_succ, lnkS] at s2
  replace e_w := e_w.below (Nat.le_refl _) hb
  clear e_w2
  clear hu hs hc hb
  refine wl_op hr (ok_assignc) inferInstance ?_; clear hr; intro a9 w9 x hr hd hs
  revert s2; refine kp1 hs rfl ?_; intro s2
  have s3 := hd 3 rfl (by decide)
  replace e_w := e_w.trans x
  have e_w8 := x; clear hd hs x
  refine wpList_nil ?_
  refine et ?_
  refine wp_ret ?_
  refine then_ret ?_
  refine ret_cell_tmp Try.results22 hr tu36 rfl size36 (later e_w8 s2) e_w ?_
  first | (rw [hrd]; exact ⟨_, _, rfl, ⟨_, rfl, ownR_nil⟩, s3⟩) | (rw [hrd]; exact ⟨_, _, rfl, ⟨_, rfl, OwnR.mono (OwnRA.own noGhost) hB⟩, s3⟩)
 have hl : ¬ l.length < 14 := by simp at hl; omega
 have w12 := wordAt_bd l 12
 refine wp_skip ?_
 refine es ?_
 refine wp_reg_pre (l := [_, _, _, _, _]) (rest := [_]) 62 [[(0, none)], [(9, some 0)], [(10, some 1)], [(11, some 2)], []] [?b10_0, ?b10_1, ?b10_2, ?b10_3, ?b10_4] hr ?t10 ?o10 ?_
 case o10 =>
  apply oc0; intro A W hx hf
  exact ok_movE (a0 := a4) (r0 hf)
  apply oc0; intro A W hx hf
  exact okW_slice_lo (12) tu22 size5 (sarg s0 (show _ = _ from (q0 ?b10_0 A W 9 hf))) (ec A (.int .i64 12)) (by first | omega | decide | (simp; done) | (simp; omega))
  apply oc0; intro A W hx hf
  exact ok_call1 body46 (c_lnum (AtW.now (q0 ?b10_1 A W 10 hf) (e_w.trans hx)) (by simp; omega))
  apply oc0; intro A W hx hf
  exact ok_buildS [(3, (.tmp 11)), (4, (.const (.int .i64 14)))] [(3, _), (4, _)] lay36 rfl (PartsC.one (q0 ?b10_2 A W 11 hf) rfl (PartsC.one (ec A (.int .i64 14)) rfl (PartsC.nil))) (by first | rfl | simp [adrCells, *])
  apply oc0; intro A W hx hf
  exact ok_allocS (lnkS link0 (.slice none 0 0)) [6, 6, 1, 1, 1] zerov36 (by rfl) (by rfl) hx.size
  exact onn
 case t10 => exact inferInstance
 clear hr; intro a11 w11 x hr hd hs
 have z_w_w4 := e_w.size
 have z_w2_w4 := e_w2.size
 have l11_2 := PxS.lt (later e_w2 s2)
 revert s2; revert s0; refine kp2 hs rfl ?_; intro s0 s2
 clear s7
 have s12 := fa ?b10_3 a11 w11 12 (hd 3 12 rfl)
 have s4 := fa ?b10_4 a11 w11 4 (hd 4 4 rfl)
 obtain ⟨g11_4, q11_4⟩ := PxN.at s4; clear s4; have n11_4 := PxS.lt q11_4
 replace q11_4 := PxS.mono q11_4 e_w.size
 have s4 := q11_4; clear q11_4
 replace e_w := e_w.trans x
 replace e_w2 := e_w2.trans x; clear hd hs x
 have z12 := PxS.lt s4
 have l12 := (show (g11_4 = 0 ∨ w.heap.size < g11_4) ∧ True from ⟨by omega, trivial⟩)
 have l12_2 := PxS.lt (later e_w2 s2)
 refine wl_storeSm (lnkS ⟨List.replicate 6 0, List.replicate 6 0, [], wordAt l 12, 14⟩ (.slice none 0 0)) hr size36 s4 (Is.conv s12 (show _ = Value.agg (lnkS ⟨List.replicate 6 0, List.replicate 6 0, [], wordAt l 12, 14⟩ (.slice none 0 0)).flatten.toArray from by rw [wordAt_drop]; rfl)) (by rfl) (by exact lnk_one rfl) rfl ?_; clear hr; intro a12 w12 hc hu hr hs
 have hb : Below w.heap.size w11 w12 := hc.below e_w.size l12.1
 revert s4; revert s2; revert s0; refine kp3 hs rfl ?_; intro s0 s2 s4
 clear s12
 replace s2 := PxS.other (later e_w2 s2) hc (by omega)
 replace s4 := hu _ _ _ s4
 try simp only [List.set_cons_zero, List.set_cons_succ, lnkS] at s4
 replace e_w := e_w.below (Nat.le_refl _) hb
 clear e_w2
 clear hu hs hc hb
 refine wpList_nil ?_
 refine es ?_
 refine wp_reg_pre (l := [_, _, _]) (rest := [_]) 62 [[(4, none)], [(13, some 0)], [(0, none)]] [?b13_0, ?b13_1, ?b13_2] hr ?t13 ?o13 ?_
 case o13 =>
  apply oc0; intro A W hx hf
  exact ok_fieldS 0 tu36 (k := 0) rfl size33 rfl (o1 s4 hx (r0 hf)) rfl
  apply oc0; intro A W hx hf
  exact ok_sliceS tu33 size5 (q0 ?b13_0 A W 13 hf) rfl
  apply oc0; intro A W hx hf
  exact ok_movE (a0 := a12) (r0 hf)
  exact onn
 case t13 => exact inferInstance
 clear hr; intro a14 w14 x hr hd hs
 have u15 := mv s0 (fa ?b13_2 a14 w14 15 (hd 2 15 rfl))
 revert s4; revert s2; revert s0; refine kp3 hs rfl ?_; intro s0 s2 s4
 have s15 := u15; clear u15
 have s14 := fa ?b13_1 a14 w14 14 (hd 1 14 rfl)
 replace e_w := e_w.trans x
 have e_w12 := x; clear hd hs x
 have z15 := SxS.lt s14
 have l15 := (show (g11_4 = 0 ∨ w.heap.size < g11_4) ∧ True from ⟨by omega, trivial⟩)
 have l15_2 := PxS.lt (later e_w12 s2)
 refine wl_copyS hr tu22 size5 s14 rfl (later e_w s15) ?_; clear hr; intro a15 w15 hc hu hr hs
 have hb : Below w.heap.size w14 w15 := hc.below e_w.size l15.1
 revert s4; revert s2; revert s0; refine kp3 hs rfl ?_; intro s0 s2 s4
 clear s15 s14
 replace s2 := PxS.other (later e_w12 s2) hc (by omega)
 replace s4 := hu _ _ _ (later e_w12 s4)
 try simp only [List.set_cons_zero, List.set_cons_succ, lnkS] at s4
 replace e_w := e_w.below (Nat.le_refl _) hb
 clear e_w12
 clear hu hs hc hb
 refine wpList_nil ?_
 replace s4 := PxS.cast s4 (show _ = lnkS ⟨l.take 6, List.replicate 6 0, [], wordAt l 12, 14⟩ (.slice none 0 0) from by rw [cpy6 (by omega)]; rfl)
 refine es ?_
 refine wp_any_start mixed (fun w16 x => ?_)
 show wpAny _ _ _ _ 5 _ _ _
 replace e_w := e_w.trans x
 have e_w15 := x
 clear x
 refine wp_sel (l := [_, _, _, _, _]) 62 _ [false, false, false, false, true] [4] [[(4, none)], [(17, some 0)], [(0, none)], [(19, some 2)], []] [?b17_0, ?b17_1, ?b17_2, ?b17_3, VP.top] (by kernel_rfl) rfl (by kernel_rfl) hr ?t17 ?o17 ?_
 case o17 =>
  apply lc0; intro A W hx hf
  exact ok_fieldS 1 tu36 (k := 1) rfl size33 rfl (o2 s4 e_w15 hx (r0 hf)) rfl
  apply lc0; intro A W hx hf
  exact ok_sliceS tu33 size5 (q0 ?b17_0 A W 17 hf) rfl
  apply lc0; intro A W hx hf
  exact ok_movE (a0 := a15) (r0 hf)
  apply lc0; intro A W hx hf
  exact okW_slice_lo (6) tu22 size5 (sarg s0 (show _ = _ from (q0 ?b17_2 A W 19 hf))) (ec A (.int .i64 6)) (by first | omega | decide | (simp; done) | (simp; omega))
  refine lcs ?_
  exact lcn
 case t17 => exact inferInstance
 clear hr; intro a18 w18 x hr hd hs
 have u19 := mv s0 (fa ?b17_2 a18 w18 19 (hd 2 19 rfl rfl))
 revert s4; revert s2; revert s0; refine kp3 hs rfl ?_; intro s0 s2 s4
 have s19 := u19; clear u19
 have s17 := fa ?b17_0 a18 w18 17 (hd 0 17 rfl rfl)
 have s18 := fa ?b17_1 a18 w18 18 (hd 1 18 rfl rfl)
 have s20 := AtW.base (fa ?b17_3 a18 w18 20 (hd 3 20 rfl rfl))
 replace e_w := e_w.trans x
 replace e_w15 := e_w15.trans x; clear hd hs x
 show wpList _ _ _ [_] _ _
 have z19 := SxS.lt s18
 have l19 := (show (g11_4 = 0 ∨ w.heap.size < g11_4) ∧ True from ⟨by omega, trivial⟩)
 have l19_2 := PxS.lt (later e_w15 s2)
 refine wl_copyS hr tu22 size5 s18 rfl (later e_w s20) ?_; clear hr; intro a19 w19 hc hu hr hs
 have hb : Below w.heap.size w18 w19 := hc.below e_w.size l19.1
 revert s4; revert s2; revert s0; refine kp3 hs rfl ?_; intro s0 s2 s4
 clear s19 s17 s18 s20
 replace s2 := PxS.other (later e_w15 s2) hc (by omega)
 replace s4 := hu _ _ _ (later e_w15 s4)
 try simp only [List.set_cons_zero, List.set_cons_succ, lnkS] at s4
 replace e_w := e_w.below (Nat.le_refl _) hb
 clear e_w15
 clear hu hs hc hb
 refine wpList_nil ?_
 replace s4 := PxS.cast s4 (show _ = lnkS ⟨l.take 6, (l.drop 6).take 6, [], wordAt l 12, (12 : Int) + 2⟩ (.slice none 0 0) from by rw [cpy6 (by simp; omega)]; rfl)
 have gT : OwnRA 0 w.heap.size 97 tagR [] (.slice none 0 0) w19 := ownRA_nil
 refine es ?_
 refine wp_block ?_
 refine wp_loop_inv (fun n A W => ∃ (k p : Nat) (ts : List TagL) (v : Value) (γ : Nat), n = k ∧ Fr 62 A ∧ Same D_c_lRead_0 a19 A ∧ Ext w W ∧ (k ≤ 2) ∧ (ts.length + k = 2) ∧ (12 ≤ p) ∧ (p + 2 ≤ l.length) ∧ (linkRead l = linkGo l k p ts) ∧ (g11_4 ≠ γ) ∧ (g2_2 ≠ γ) ∧ (p + 4 * k = 20) ∧ (OwnRA γ w.heap.size 97 tagR ts) (v) W ∧ (PxS g2_2 w.heap.size [15] [(lnkS link0 (.slice none 0 0)).flatten] 0) (A.eval (.tmp 2)) W ∧ (PxS g11_4 w.heap.size [6, 6, 1, 1, 1] (lnkS ⟨l.take 6, (l.drop 6).take 6, ts, wordAt l p, (p : Int) + 2⟩ v) 0) (A.eval (.tmp 4)) W) ?start20 ?_
 case start20 =>
  refine ⟨_, 2, 12, [], (.slice none 0 0), 0, rfl, hr, Same.rfl, e_w, (by omega), (by rfl), (by omega), (by omega), (by rfl), (by omega), (by omega), (by omega), gT, ?_, ?_⟩
  · exact s2
  · exact s4
 intro n20 a20 w20 hI
 clear e_w
 clear hr; obtain ⟨k, p, ts, v, γ, hn20, hr, hs, e_w, hk, hts, hp, hpl, hsr, ne4, ne2, hpk, gT, u2, u4⟩ := hI
 revert s0; refine kp1 hs rfl ?_; intro s0
 clear s2 s4
 have s2 := u2; clear u2
 have s4 := u4; clear u4
 replace s4 := PxS.cast s4 (show _ = [(l.take 6).map byteV, ((l.drop 6).take 6).map byteV, [v], [.int .i64 (wordAt l p)], [.int .i64 ((p : Int) + 2)]] from rfl)
 have m20 := hs; clear hs
 refine sq ?_
 refine sq ?_
 refine wp_reg 62 [[(4, none)], [(22, some 0)], [(23, some 1)]] [?b21_0, ?b21_1, ?b21_2] mixed hr ?t21 ?o21 ?_
 case o21 =>
  apply oc0; intro A W hx hf
  exact ok_fieldS 3 tu36 (k := 3) rfl size3 rfl (o1 s4 hx (r0 hf)) rfl
  apply oc0; intro A W hx hf
  exact ok_loadS tu3 rfl (q0 ?b21_0 A W 22 hf) rfl
  apply oc0; intro A W hx hf
  exact ok_call1 body47 (c_ltag (q0 ?b21_1 A W 23 hf))
  exact onn
 case t21 => exact inferInstance
 clear hr; intro a22 w22 x hr hd hs
 revert s4; revert s2; revert s0; refine kp3 hs rfl ?_; intro s0 s2 s4
 have s24 := fa ?b21_2 a22 w22 24 (hd 2 24 rfl)
 replace e_w := e_w.trans x
 have e_w20 := x
 replace m20 := m20.tr hs rfl; clear hd hs x
 refine et ?_
 refine wp_cond_split (show _ = _ from s24) (fun ht => ?_) (fun ht => ?_)
 ·
  have wp := wordAt_bd l p
  refine wp_skip ?_
  refine et ?_
  refine wp_block ?_
  refine sq ?_
  refine sq ?_
  refine wp_reg 62 [[(4, none)], [(25, some 0)], [(26, some 1)], [(27, some 2)]] [?b24_0, ?b24_1, ?b24_2, ?b24_3] mixed hr ?t24 ?o24 ?_
  case o24 =>
   apply oc0; intro A W hx hf
   exact ok_fieldS 2 tu36 (k := 2) rfl size34 rfl (o2 s4 e_w20 hx (r0 hf)) rfl
   apply oc0; intro A W hx hf
   exact ok_is (ok_loadS tu34 rfl (q0 ?b24_0 A W 25 hf) rfl) (OwnRA.rw (later (e_w20.trans hx) gT))
   apply oc0; intro A W hx hf
   exact ok_len_rw tu34 (q0 ?b24_1 A W 26 hf)
   apply oc0; intro A W hx hf
   exact ok_eql (q0 ?b24_2 A W 27 hf) (ec A (.int .i64 2))
   exact onn
  case t24 => exact inferInstance
  clear hr; intro a25 w25 x hr hd hs
  revert s4; revert s2; revert s0; refine kp3 hs rfl ?_; intro s0 s2 s4
  clear s24
  have s28 := fa ?b24_3 a25 w25 28 (hd 3 28 rfl)
  replace e_w := e_w.trans x
  replace e_w20 := e_w20.trans x
  replace m20 := m20.tr hs rfl; clear hd hs x
  refine et ?_
  refine wp_cond_split (show _ = _ from s28) (fun hk2 => ?_) (fun hk2 => ?_)
  ·
   have hk0 : k = 0 := by simp at hk2; omega
   rw [hk0] at hsr
   have hrd := hsr.trans (linkGo_long (by omega) ht)
   refine sq ?_
   refine wp_reg_pre (l := [_]) (rest := [_, _]) 62 [[]] [?b27_0] hr ?t27 ?o27 ?_
   case o27 =>
    apply oc0; intro A W hx hf
    exact ok_build0 built36
    exact onn
   case t27 => exact inferInstance
   clear hr; intro a28 w28 x hr hd hs
   revert s2; refine kp1 hs rfl ?_; intro s2
   clear s0 s4 s28
   have s29 := fa ?b27_0 a28 w28 29 (hd 0 29 rfl)
   replace e_w := e_w.trans x
   replace e_w20 := e_w20.trans x
   replace m20 := m20.tr hs rfl; clear hd hs x
   have z29 := PxS.lt (later e_w20 s2)
   have l29 := (show (g2_2 = 0 ∨ w.heap.size < g2_2) ∧ True from ⟨by omega, trivial⟩)
   have l29_gT := OwnRA.lt (later e_w20 gT)
   refine wl_storeSn hr size36 (later e_w20 s2) s29 (by exact lnk_len link0_ok) (by exact lnk_one rfl) rfl ?_; clear hr; intro a29 w29 hc hu hr hs
   have hb : Below w.heap.size w28 w29 := hc.below e_w.size l29.1
   revert s2; refine kp1 hs rfl ?_; intro s2
   clear s29
   replace s2 := hu _ _ _ (later e_w20 s2)
   try simp only [List.set_cons_zero, List.set_cons_succ, lnkS] at s2
   replace gT := OwnRA.other (later e_w20 gT) hc (by omega)
   replace e_w := e_w.below (Nat.le_refl _) hb
   clear e_w20
   replace m20 := m20.tr hs rfl
   clear hu hs hc hb
   refine wl_op hr (ok_assignc) inferInstance ?_; clear hr; intro a30 w30 x hr hd hs
   revert s2; refine kp1 hs rfl ?_; intro s2
   have s3 := hd 3 rfl (by decide)
   replace e_w := e_w.trans x
   have e_w29 := x
   replace m20 := m20.tr hs rfl; clear hd hs x
   refine wpList_nil ?_
   refine et ?_
   refine wp_ret ?_
   refine then_ret ?_
   refine blk_ret ?_
   refine then_ret ?_
   refine blk_ret ?_
   refine then_ret ?_
   refine ret_cell_tmp Try.results22 hr tu36 rfl size36 (later e_w29 s2) e_w ?_
   first | (rw [hrd]; exact ⟨_, _, rfl, ⟨_, rfl, ownR_nil⟩, s3⟩) | (rw [hrd]; exact ⟨_, _, rfl, ⟨_, rfl, OwnR.mono (OwnRA.own (later e_w29 gT)) hB⟩, s3⟩)
  have hk0 : k ≠ 0 := by simp at hk2; omega
  obtain ⟨kq, hkq⟩ : ∃ q, k = q + 1 := ⟨k - 1, by omega⟩
  rw [hkq] at hsr
  refine wp_skip ?_
  refine es ?_
  refine sq ?_
  refine wp_reg 62 [[(0, none)], [(30, some 0)], [(4, none)], [(32, some 2)], [(33, some 3)], [(31, some 1), (34, some 4)]] [?b31_0, ?b31_1, ?b31_2, ?b31_3, ?b31_4, ?b31_5] mixed hr ?t31 ?o31 ?_
  case o31 =>
   apply oc0; intro A W hx hf
   exact ok_movE (a0 := a25) (r0 hf)
   apply oc0; intro A W hx hf
   exact ok_len_bs tu22 (p2 s0 e_w hx (q0 ?b31_0 A W 30 hf))
   apply oc0; intro A W hx hf
   exact ok_fieldS 4 tu36 (k := 4) rfl size3 rfl (o2 s4 e_w20 hx (r0 hf)) rfl
   apply oc0; intro A W hx hf
   exact ok_loadS tu3 rfl (q0 ?b31_2 A W 32 hf) rfl
   apply oc0; intro A W hx hf
   exact ok_addI (q0 ?b31_3 A W 33 hf) (ec A (.int .i64 4)) (by omega)
   apply oc0; intro A W hx hf
   exact ok_lss (q0 ?b31_1 A W 31 hf) (q1 ?b31_4 A W 34 hf)
   exact onn
  case t31 => exact inferInstance
  clear hr; intro a32 w32 x hr hd hs
  revert s4; revert s2; revert s0; refine kp3 hs rfl ?_; intro s0 s2 s4
  clear s28
  have s35 := fa ?b31_5 a32 w32 35 (hd 5 35 rfl)
  replace e_w := e_w.trans x
  replace e_w20 := e_w20.trans x
  replace m20 := m20.tr hs rfl; clear hd hs x
  refine et ?_
  refine wp_cond_split (show _ = _ from s35) (fun h6 => ?_) (fun h6 => ?_)
  ·
   have h6 : l.length < p + 6 := by simp at h6; omega
   have hrd := hsr.trans (linkGo_cut (by omega) ht h6)
   refine sq ?_
   refine wp_reg_pre (l := [_]) (rest := [_, _]) 62 [[]] [?b34_0] hr ?t34 ?o34 ?_
   case o34 =>
    apply oc0; intro A W hx hf
    exact ok_build0 built36
    exact onn
   case t34 => exact inferInstance
   clear hr; intro a35 w35 x hr hd hs
   revert s2; refine kp1 hs rfl ?_; intro s2
   clear s0 s4 s35
   have s36 := fa ?b34_0 a35 w35 36 (hd 0 36 rfl)
   replace e_w := e_w.trans x
   replace e_w20 := e_w20.trans x
   replace m20 := m20.tr hs rfl; clear hd hs x
   have z36 := PxS.lt (later e_w20 s2)
   have l36 := (show (g2_2 = 0 ∨ w.heap.size < g2_2) ∧ True from ⟨by omega, trivial⟩)
   have l36_gT := OwnRA.lt (later e_w20 gT)
   refine wl_storeSn hr size36 (later e_w20 s2) s36 (by exact lnk_len link0_ok) (by exact lnk_one rfl) rfl ?_; clear hr; intro a36 w36 hc hu hr hs
   have hb : Below w.heap.size w35 w36 := hc.below e_w.size l36.1
   revert s2; refine kp1 hs rfl ?_; intro s2
   clear s36
   replace s2 := hu _ _ _ (later e_w20 s2)
   try simp only [List.set_cons_zero, List.set_cons_succ, lnkS] at s2
   replace gT := OwnRA.other (later e_w20 gT) hc (by omega)
   replace e_w := e_w.below (Nat.le_refl _) hb
   clear e_w20
   replace m20 := m20.tr hs rfl
   clear hu hs hc hb
   refine wl_op hr (ok_assignc) inferInstance ?_; clear hr; intro a37 w37 x hr hd hs
   revert s2; refine kp1 hs rfl ?_; intro s2
   have s3 := hd 3 rfl (by decide)
   replace e_w := e_w.trans x
   have e_w36 := x
   replace m20 := m20.tr hs rfl; clear hd hs x
   refine wpList_nil ?_
   refine et ?_
   refine wp_ret ?_
   refine then_ret ?_
   refine blk_ret ?_
   refine then_ret ?_
   refine blk_ret ?_
   refine then_ret ?_
   refine ret_cell_tmp Try.results22 hr tu36 rfl size36 (later e_w36 s2) e_w ?_
   first | (rw [hrd]; exact ⟨_, _, rfl, ⟨_, rfl, ownR_nil⟩, s3⟩) | (rw [hrd]; exact ⟨_, _, rfl, ⟨_, rfl, OwnR.mono (OwnRA.own (later e_w36 gT)) hB⟩, s3⟩)
  have h6 : ¬ l.length < p + 6 := by simp at h6; omega
  replace hsr := hsr.trans (linkGo_step (by omega) ht h6)
  refine wp_skip ?_
  refine es ?_
  refine wp_any_start mixed (fun w38 x => ?_)
  show wpAny _ _ _ _ 14 _ _ _
  replace e_w := e_w.trans x
  replace e_w20 := e_w20.trans x
  have e_w32 := x
  clear x
  refine wp_sel (l := [_, _, _, _, _, _, _, _, _, _, _, _, _, _]) 62 _ [false, false, false, false, false, false, false, false, false, false, false, true, true, true] [11, 12, 13] [[(4, none)], [(37, some 0)], [(4, none)], [(39, some 2)], [(0, none)], [(4, none)], [(42, some 5)], [(41, some 4), (43, some 6)], [(44, some 7)], [(40, some 3), (45, some 8)], [(46, some 9)], [], [], []] [?b39_0, ?b39_1, ?b39_2, ?b39_3, ?b39_4, ?b39_5, ?b39_6, ?b39_7, ?b39_8, ?b39_9, ?b39_10, VP.top, VP.top, VP.top] (by kernel_rfl) rfl (by kernel_rfl) hr ?t39 ?o39 ?_
  case o39 =>
   apply lc0; intro A W hx hf
   exact ok_fieldS 2 tu36 (k := 2) rfl size34 rfl (o2 s4 e_w20 hx (r0 hf)) rfl
   apply lc0; intro A W hx hf
   exact ok_is (ok_loadS tu34 rfl (q0 ?b39_0 A W 37 hf) rfl) (later (e_w20.trans hx) gT)
   apply lc0; intro A W hx hf
   exact ok_fieldS 3 tu36 (k := 3) rfl size3 rfl (o2 s4 e_w20 hx (r0 hf)) rfl
   apply lc0; intro A W hx hf
   exact ok_loadS tu3 rfl (q0 ?b39_2 A W 39 hf) rfl
   apply lc0; intro A W hx hf
   exact ok_movE (a0 := a32) (r0 hf)
   apply lc0; intro A W hx hf
   exact ok_fieldS 4 tu36 (k := 4) rfl size3 rfl (o2 s4 e_w20 hx (r0 hf)) rfl
   apply lc0; intro A W hx hf
   exact ok_loadS tu3 rfl (q0 ?b39_5 A W 42 hf) rfl
   apply lc0; intro A W hx hf
   exact okW_slice_lo (p + 2) tu22 size5 (sarg s0 (show _ = _ from (q0 ?b39_4 A W 41 hf))) (Is.int (q1 ?b39_6 A W 43 hf) (by omega)) (by omega)
   apply lc0; intro A W hx hf
   exact ok_call1 body46 (c_lnum (AtW.now (q0 ?b39_7 A W 44 hf) (e_w.trans hx)) (by simp; omega))
   apply lc0; intro A W hx hf
   exact ok_buildS [(0, (.tmp 40)), (1, (.tmp 45))] [(0, _), (1, _)] lay97 rfl (PartsC.one (q0 ?b39_3 A W 40 hf) rfl (PartsC.one (q1 ?b39_8 A W 45 hf) rfl (PartsC.nil))) (by first | rfl | simp [adrCells, *])
   apply lc0; intro A W hx hf
   exact ok_buildRw (R := tagR) [(.tmp 46)] [⟨wordAt l p, wordAt (l.drop (p + 2)) 0⟩] tu34 size97 zerom97 rfl rfl rfl (by decide) (PartsR.cons (Is.conv (q0 ?b39_9 A W 46 hf) rfl) (PartsR.nil)) hx.size
   refine lcs ?_
   refine lcs ?_
   refine lcs ?_
   exact lcn
  case t39 => exact inferInstance
  clear hr; intro a40 w40 x hr hd hs
  have z_w_w38 := e_w.size
  have z_w20_w38 := e_w20.size
  have z_w32_w38 := e_w32.size
  have l40_2 := PxS.lt (later e_w20 s2)
  have l40_4 := PxS.lt (later e_w20 s4)
  have l40_gT := OwnRA.lt (later e_w20 gT)
  have u41 := mv s0 (fa ?b39_4 a40 w40 41 (hd 4 41 rfl rfl))
  revert s4; revert s2; revert s0; refine kp3 hs rfl ?_; intro s0 s2 s4
  clear s35
  have s41 := u41; clear u41
  have s37 := fa ?b39_0 a40 w40 37 (hd 0 37 rfl rfl)
  have s38 := fa ?b39_1 a40 w40 38 (hd 1 38 rfl rfl)
  have s39 := fa ?b39_2 a40 w40 39 (hd 2 39 rfl rfl)
  have s40 := fa ?b39_3 a40 w40 40 (hd 3 40 rfl rfl)
  have s42 := fa ?b39_5 a40 w40 42 (hd 5 42 rfl rfl)
  have s43 := fa ?b39_6 a40 w40 43 (hd 6 43 rfl rfl)
  have s44 := AtW.base (fa ?b39_7 a40 w40 44 (hd 7 44 rfl rfl))
  have s45 := fa ?b39_8 a40 w40 45 (hd 8 45 rfl rfl)
  have s46 := fa ?b39_9 a40 w40 46 (hd 9 46 rfl rfl)
  have s47 := fa ?b39_10 a40 w40 47 (hd 10 47 rfl rfl)
  obtain ⟨g40_47, q40_47⟩ := OwnR.at s47; clear s47; have n40_47 := OwnRA.lt q40_47
  replace q40_47 := OwnRA.mono q40_47 e_w.size
  have s47 := q40_47; clear q40_47
  replace e_w := e_w.trans x
  replace e_w20 := e_w20.trans x
  clear e_w32
  replace m20 := m20.tr hs rfl; clear hd hs x
  show wpList _ _ _ [_, _, _] _ _
  have l41 := OwnRA.lt s38
  have l41_2 := PxS.lt (later e_w20 s2)
  have l41_4 := PxS.lt (later e_w20 s4)
  refine wl_append_rwA hr (by decide) tu34 infom97 rfl s38 (OwnRA.rw s47) e_w.size (by simp; omega) ?_; clear hr; intro g41 a41 w41 hg41 hc hr hd hs
  have hb := hc.below e_w.size l41.1
  revert s4; revert s2; revert s0; refine kp3 hs rfl ?_; intro s0 s2 s4
  clear s41 s37 s38 s39 s40 s42 s43 s44 s45 s46 s47
  replace s2 := PxS.other (later e_w20 s2) hc (by omega)
  replace s4 := PxS.other (later e_w20 s4) hc (by omega)
  have s48 := hd
  obtain ⟨vT, hsv⟩ : ∃ v, v = a41.eval (.tmp 48) := ⟨_, rfl⟩; have gT := s48; rw [← hsv] at gT; replace s48 : Is vT (a41.eval (.tmp 48)) w41 := hsv.symm; clear hsv
  replace e_w := e_w.below (Nat.le_refl _) hb
  clear e_w20
  replace m20 := m20.tr hs rfl
  clear hd hs hb hc
  refine wl_op hr (ok_fieldS 2 tu36 (k := 2) rfl size34 rfl s4 rfl) inferInstance ?_; clear hr; intro a42 w42 x hr hd hs
  revert s48; revert s4; revert s2; revert s0; refine kp4 hs rfl ?_; intro s0 s2 s4 s48
  have s49 := hd 49 rfl (by decide)
  replace e_w := e_w.trans x
  have e_w41 := x
  replace m20 := m20.tr hs rfl; clear hd hs x
  have z43 := PxS.lt s49
  have l43 := (show (g11_4 = 0 ∨ w.heap.size < g11_4) ∧ True from ⟨by omega, trivial⟩)
  have l43_2 := PxS.lt (later e_w41 s2)
  have l43_gT := OwnRA.lt (later e_w41 gT)
  refine wl_storeS hr size34 s49 (later e_w41 s48) (by exact rw_one (OwnRA.rw gT)) rfl ?_; clear hr; intro a43 w43 hc hu hr hs
  have hb : Below w.heap.size w42 w43 := hc.below e_w.size l43.1
  revert s4; revert s2; revert s0; refine kp3 hs rfl ?_; intro s0 s2 s4
  clear s48 s49
  replace s2 := PxS.other (later e_w41 s2) hc (by omega)
  replace s4 := hu _ _ _ (later e_w41 s4)
  try simp only [List.set_cons_zero, List.set_cons_succ, lnkS] at s4
  replace gT := OwnRA.other (later e_w41 gT) hc (by omega)
  replace e_w := e_w.below (Nat.le_refl _) hb
  clear e_w41
  replace m20 := m20.tr hs rfl
  clear hu hs hc hb
  refine wpList_nil ?_
  replace gT := OwnRA.cast gT (show _ = ts ++ [⟨wordAt l p, wordAt l (p + 2)⟩] from by rw [wordAt_drop])
  replace s4 := PxS.cast s4 (show _ = [(l.take 6).map byteV, ((l.drop 6).take 6).map byteV, [vT], [.int .i64 (wordAt l p)], [.int .i64 ((p : Int) + 2)]] from rfl)
  refine es ?_
  refine wp_reg_pre (l := [_, _, _, _, _, _, _]) (rest := [_]) 62 [[(0, none)], [(4, none)], [(51, some 1)], [(52, some 2)], [(50, some 0), (53, some 3)], [(54, some 4)], [(4, none)]] [?b44_0, ?b44_1, ?b44_2, ?b44_3, ?b44_4, ?b44_5, ?b44_6] hr ?t44 ?o44 ?_
  case o44 =>
   apply oc0; intro A W hx hf
   exact ok_movE (a0 := a43) (r0 hf)
   apply oc0; intro A W hx hf
   exact ok_fieldS 4 tu36 (k := 4) rfl size3 rfl (o1 s4 hx (r0 hf)) rfl
   apply oc0; intro A W hx hf
   exact ok_loadS tu3 rfl (q0 ?b44_1 A W 51 hf) rfl
   apply oc0; intro A W hx hf
   exact ok_addI (q0 ?b44_2 A W 52 hf) (ec A (.int .i64 2)) (by omega)
   apply oc0; intro A W hx hf
   exact okW_slice_lo (p + 4) tu22 size5 (sarg s0 (show _ = _ from (q0 ?b44_0 A W 50 hf))) (Is.int (q1 ?b44_3 A W 53 hf) (by omega)) (by omega)
   apply oc0; intro A W hx hf
   exact ok_call1 body46 (c_lnum (AtW.now (q0 ?b44_4 A W 54 hf) (e_w.trans hx)) (by simp; omega))
   apply oc0; intro A W hx hf
   exact ok_fieldS 3 tu36 (k := 3) rfl size3 rfl (o1 s4 hx (r0 hf)) rfl
   exact onn
  case t44 => exact inferInstance
  clear hr; intro a45 w45 x hr hd hs
  revert s4; revert s2; revert s0; refine kp3 hs rfl ?_; intro s0 s2 s4
  have s55 := fa ?b44_5 a45 w45 55 (hd 5 55 rfl)
  have s56 := fa ?b44_6 a45 w45 56 (hd 6 56 rfl)
  replace e_w := e_w.trans x
  have e_w43 := x
  replace m20 := m20.tr hs rfl; clear hd hs x
  have z46 := PxS.lt s56
  have l46 := (show (g11_4 = 0 ∨ w.heap.size < g11_4) ∧ True from ⟨by omega, trivial⟩)
  have l46_2 := PxS.lt (later e_w43 s2)
  have l46_gT := OwnRA.lt (later e_w43 gT)
  refine wl_storeS hr size3 s56 (Is.int s55 (show _ = wordAt l (p + 4) from by rw [wordAt_drop])) (by rfl) rfl ?_; clear hr; intro a46 w46 hc hu hr hs
  have hb : Below w.heap.size w45 w46 := hc.below e_w.size l46.1
  revert s4; revert s2; revert s0; refine kp3 hs rfl ?_; intro s0 s2 s4
  clear s55 s56
  replace s2 := PxS.other (later e_w43 s2) hc (by omega)
  replace s4 := hu _ _ _ (later e_w43 s4)
  try simp only [List.set_cons_zero, List.set_cons_succ, lnkS] at s4
  replace gT := OwnRA.other (later e_w43 gT) hc (by omega)
  replace e_w := e_w.below (Nat.le_refl _) hb
  clear e_w43
  replace m20 := m20.tr hs rfl
  clear hu hs hc hb
  refine wpList_nil ?_
  replace s4 := PxS.cast s4 (show _ = [(l.take 6).map byteV, ((l.drop 6).take 6).map byteV, [vT], [.int .i64 (wordAt l (p + 4))], [.int .i64 ((p : Int) + 2)]] from rfl)
  refine et ?_
  refine wp_reg_pre (l := [_, _, _, _]) (rest := [_]) 62 [[(4, none)], [(57, some 0)], [(58, some 1)], [(4, none)]] [?b47_0, ?b47_1, ?b47_2, ?b47_3] hr ?t47 ?o47 ?_
  case o47 =>
   apply oc0; intro A W hx hf
   exact ok_fieldS 4 tu36 (k := 4) rfl size3 rfl (o1 s4 hx (r0 hf)) rfl
   apply oc0; intro A W hx hf
   exact ok_loadS tu3 rfl (q0 ?b47_0 A W 57 hf) rfl
   apply oc0; intro A W hx hf
   exact ok_addI (q0 ?b47_1 A W 58 hf) (ec A (.int .i64 4)) (by omega)
   apply oc0; intro A W hx hf
   exact ok_fieldS 4 tu36 (k := 4) rfl size3 rfl (o1 s4 hx (r0 hf)) rfl
   exact onn
  case t47 => exact inferInstance
  clear hr; intro a48 w48 x hr hd hs
  revert s4; revert s2; revert s0; refine kp3 hs rfl ?_; intro s0 s2 s4
  have s59 := fa ?b47_2 a48 w48 59 (hd 2 59 rfl)
  have s60 := fa ?b47_3 a48 w48 60 (hd 3 60 rfl)
  replace e_w := e_w.trans x
  have e_w46 := x
  replace m20 := m20.tr hs rfl; clear hd hs x
  have z49 := PxS.lt s60
  have l49 := (show (g11_4 = 0 ∨ w.heap.size < g11_4) ∧ True from ⟨by omega, trivial⟩)
  have l49_2 := PxS.lt (later e_w46 s2)
  have l49_gT := OwnRA.lt (later e_w46 gT)
  refine wl_storeS hr size3 s60 (Is.int s59 (show _ = ((p + 4 : Nat) : Int) + 2 from by omega)) (by rfl) rfl ?_; clear hr; intro a49 w49 hc hu hr hs
  have hb : Below w.heap.size w48 w49 := hc.below e_w.size l49.1
  revert s4; revert s2; revert s0; refine kp3 hs rfl ?_; intro s0 s2 s4
  clear s59 s60
  replace s2 := PxS.other (later e_w46 s2) hc (by omega)
  replace s4 := hu _ _ _ (later e_w46 s4)
  try simp only [List.set_cons_zero, List.set_cons_succ, lnkS] at s4
  replace gT := OwnRA.other (later e_w46 gT) hc (by omega)
  replace e_w := e_w.below (Nat.le_refl _) hb
  clear e_w46
  replace m20 := m20.tr hs rfl
  clear hu hs hc hb
  refine wpList_nil ?_
  refine blk_normal ?_
  refine et ?_
  refine ⟨(fun (k p : Nat) (ts : List TagL) (v : Value) (γ : Nat) => k) (kq) (p + 4) (ts ++ [⟨wordAt l p, wordAt l (p + 2)⟩]) (vT) (0), ?_, ?_⟩
  · (try dsimp only); omega
  refine ⟨kq, p + 4, ts ++ [⟨wordAt l p, wordAt l (p + 2)⟩], vT, g41, rfl, hr, m20, e_w, (by omega), (by simp; omega), (by omega), (by omega), (by exact hsr), (by omega), (by omega), (by omega), gT, ?_, ?_⟩
  · exact s2
  · exact s4
 have hrd := hsr.trans (linkGo_done (by omega) ht)
 refine wp_exit ?_
 refine then_exit ?_
 refine then_exit ?_
 refine blk_exit ?_
 refine es ?_
 refine wp_reg_pre (l := [_]) (rest := [_, _]) 62 [[(4, none)]] [?b50_0] hr ?t50 ?o50 ?_
 case o50 =>
  apply oc0; intro A W hx hf
  exact ok_loadAggS 5 tu36 rfl size36 (o2 s4 e_w20 hx (r0 hf)) rfl
  exact onn
 case t50 => exact inferInstance
 clear hr; intro a51 w51 x hr hd hs
 revert s2; refine kp1 hs rfl ?_; intro s2
 clear s0 s4 s24
 have s61 := fa ?b50_0 a51 w51 61 (hd 0 61 rfl)
 replace e_w := e_w.trans x
 replace e_w20 := e_w20.trans x; clear hd hs x
 have z52 := PxS.lt (later e_w20 s2)
 have l52 := (show (g2_2 = 0 ∨ w.heap.size < g2_2) ∧ True from ⟨by omega, trivial⟩)
 have l52_gT := OwnRA.lt (later e_w20 gT)
 refine wl_storeSn hr size36 (later e_w20 s2) (Is.conv s61 (lnk_all (L := ⟨l.take 6, (l.drop 6).take 6, ts, wordAt l p, (p : Int) + 2⟩) (v := v))) (by exact lnk_len ⟨by simp; omega, by simp; omega⟩) (by exact lnk_one (rw_one (OwnRA.rw gT))) rfl ?_; clear hr; intro a52 w52 hc hu hr hs
 have hb : Below w.heap.size w51 w52 := hc.below e_w.size l52.1
 revert s2; refine kp1 hs rfl ?_; intro s2
 clear s61
 replace s2 := hu _ _ _ (later e_w20 s2)
 try simp only [List.set_cons_zero, List.set_cons_succ, lnkS] at s2
 replace gT := OwnRA.other (later e_w20 gT) hc (by omega)
 replace e_w := e_w.below (Nat.le_refl _) hb
 clear e_w20
 clear hu hs hc hb
 refine wl_op hr (ok_assignc) inferInstance ?_; clear hr; intro a53 w53 x hr hd hs
 revert s2; refine kp1 hs rfl ?_; intro s2
 have s3 := hd 3 rfl (by decide)
 replace e_w := e_w.trans x
 have e_w52 := x; clear hd hs x
 refine wpList_nil ?_
 refine et ?_
 refine wp_ret ?_
 refine ret_cell_tmp Try.results22 hr tu36 rfl size36 (later e_w52 s2) e_w ?_
 first | (rw [hrd]; exact ⟨_, _, rfl, ⟨_, rfl, ownR_nil⟩, s3⟩) | (rw [hrd]; exact ⟨_, _, rfl, ⟨_, rfl, OwnR.mono (OwnRA.own (later e_w52 gT)) hB⟩, s3⟩)

def D_c_lPut_0 : List Tmp := [2, 3, 4, 6, 31, 32, 33, 34, 35, 36, 37, 38, 39, 40, 41, 42, 43, 44, 45, 46, 47, 48, 49, 50, 51, 52, 53, 54, 55, 56, 57]
theorem c_lPut {x0 : Value} {w : World} {L : LinkL} {B : Nat} (h0 : (LinkV L) x0 w) (hL : LinkOk L) (hB : B ≤ w.heap.size) :
    Calls Try.prog 31 #[x0] w (Ret (Tup2 (OwnB B 5 (linkPutR L).1) (Is (.int .i64 (linkPutR L).2))) w) := by
 obtain ⟨v, eh0, hT, hvh0⟩ := h0
 replace h0 : Is (LnkA L v) x0 w := eh0
 have hd6 := hL.1
 have hs6 := hL.2
 have htl : L.tags.length ≤ 9223372036854775807 := Rw.len_le hT
 refine enter Try.func31 rfl Try.ntmps31 (k := 1) rfl (by decide) (fun a0 hr hargs => ?_)
 have s0 := sarg h0 (hargs 0 (by decide))
 clear hargs
 refine sq ?_
 refine wp_reg 64 [[(0, none)], [], []] [?b1_0, ?b1_1, ?b1_2] mixed hr ?t1 ?o1 ?_
 case o1 =>
  apply oc0; intro A W hx hf
  exact ok_boxS (lnkS L v) [6, 6, 1, 1, 1] (o1 s0 hx (r0 hf)) (by exact lnkS_lens hL) hx.size
  apply oc0; intro A W hx hf
  exact ok_assignv (OwnBA 0 w.heap.size 5 []) (fun _ => ownBA_nil)
  apply oc0; intro A W hx hf
  exact ok_assignc
  exact onn
 case t1 => exact inferInstance
 clear hr; intro a2 w2 x hr hd hs
 clear s0
 have s1 := fa ?b1_0 a2 w2 1 (hd 0 1 rfl)
 obtain ⟨g2_1, q2_1⟩ := PxN.at s1; clear s1; have n2_1 := PxS.lt q2_1
 have s1 := q2_1; clear q2_1
 have e_w := x; clear hd hs x
 refine es ?_
 refine sq ?_
 refine wp_reg 64 [[(1, none)], [(7, some 0)], [(8, some 1)], [(9, some 2)], [(10, some 3)], [(1, none), (11, some 4)], [(12, some 5), (11, some 4)], [(13, some 6), (11, some 4)], [(14, some 7), (11, some 4)], [(11, some 4), (15, some 8)], [(16, some 9)], [(1, none), (17, some 10)], [(18, some 11), (17, some 10)], [(19, some 12), (17, some 10)], [(17, some 10), (20, some 13)]] [?b3_0, ?b3_1, ?b3_2, ?b3_3, ?b3_3, ?b3_5, ?b3_6, ?b3_7, ?b3_8, ?b3_9, ?b3_9, ?b3_11, ?b3_12, ?b3_13, ?b3_14] mixed hr ?t3 ?o3 ?_
 case o3 =>
  apply oc0; intro A W hx hf
  exact ok_fieldS 2 tu36 (k := 2) rfl size34 rfl (o1 s1 hx (r0 hf)) rfl
  apply oc0; intro A W hx hf
  exact ok_isW (ok_loadS tu34 rfl (q0 ?b3_0 A W 7 hf) rfl) hT
  apply oc0; intro A W hx hf
  exact ok_len_rw tu34 (AtW.now (q0 ?b3_1 A W 8 hf) (e_w.trans hx))
  apply oc0; intro A W hx hf
  exact ok_gtr (q0 ?b3_2 A W 9 hf) (ec A (.int .i64 2))
  apply oc0; intro A W hx hf
  exact ok_move (q0 ?b3_3 A W 10 hf)
  refine ocg 11 ?_ (fun A W hx hf => ?_) ?_
  rfl
  exact gd_f (q1 ?b3_3 A W 11 hf) (fun hc => ok_fieldS 3 tu36 (k := 3) rfl size3 rfl (o1 s1 hx (r0 hf)) rfl)
  refine ocg 11 ?_ (fun A W hx hf => ?_) ?_
  rfl
  exact gd_f (q1 ?b3_3 A W 11 hf) (fun hc => ok_loadS tu3 rfl (G.get (q0 ?b3_5 A W 12 hf) hc) rfl)
  refine ocg 11 ?_ (fun A W hx hf => ?_) ?_
  rfl
  exact gd_f (q1 ?b3_3 A W 11 hf) (fun hc => ok_call1 body58 (c_lin (G.get (q0 ?b3_6 A W 13 hf) hc)))
  refine ocg 11 ?_ (fun A W hx hf => ?_) ?_
  rfl
  exact gd_f (q1 ?b3_3 A W 11 hf) (fun hc => ok_not (G.get (q0 ?b3_7 A W 14 hf) hc))
  apply oc0; intro A W hx hf
  exact ok_or (q0 ?b3_3 A W 11 hf) (q1 ?b3_8 A W 15 hf)
  apply oc0; intro A W hx hf
  exact ok_move (q0 ?b3_9 A W 16 hf)
  refine ocg 17 ?_ (fun A W hx hf => ?_) ?_
  rfl
  exact gd_f (q1 ?b3_9 A W 17 hf) (fun hc => ok_fieldS 3 tu36 (k := 3) rfl size3 rfl (o1 s1 hx (r0 hf)) rfl)
  refine ocg 17 ?_ (fun A W hx hf => ?_) ?_
  rfl
  exact gd_f (q1 ?b3_9 A W 17 hf) (fun hc => ok_loadS tu3 rfl (G.get (q0 ?b3_11 A W 18 hf) hc) rfl)
  refine ocg 17 ?_ (fun A W hx hf => ?_) ?_
  rfl
  exact gd_f (q1 ?b3_9 A W 17 hf) (fun hc => ok_call1 body47 (c_ltag (G.get (q0 ?b3_12 A W 19 hf) hc)))
  apply oc0; intro A W hx hf
  exact ok_or (q0 ?b3_9 A W 17 hf) (q1 ?b3_13 A W 20 hf)
  exact onn
 case t3 => exact inferInstance
 clear hr; intro a4 w4 x hr hd hs
 revert s1; refine kp1 hs rfl ?_; intro s1
 have s21 := fa ?b3_14 a4 w4 21 (hd 14 21 rfl)
 replace e_w := e_w.trans x
 have e_w2 := x; clear hd hs x
 refine et ?_
 refine wp_cond_split (show _ = _ from s21) (fun hc9 => ?_) (fun hc9 => ?_)
 ·
  have hr9 := linkRight_no hc9
  refine sq ?_
  refine wp_reg 64 [[], []] [?b6_0, ?b6_1] mixed hr ?t6 ?o6 ?_
  case o6 =>
   apply oc0; intro A W hx hf
   exact ok_assignv (OwnBA 0 w.heap.size 5 []) (fun _ => ownBA_nil)
   apply oc0; intro A W hx hf
   exact ok_assignc
   exact onn
  case t6 => exact inferInstance
  clear hr; intro a7 w7 x hr hd hs
  clear s1 s21
  have s2 := fa ?b6_0 a7 w7 2 (hd 0 2 rfl)
  have s3 := fa ?b6_1 a7 w7 3 (hd 1 3 rfl)
  replace e_w := e_w.trans x
  clear e_w2; clear hd hs x
  refine et ?_
  refine wp_ret ?_
  refine then_ret ?_
  refine ret_tmp2 Try.results31 hr e_w ?_
  first | exact ⟨_, _, rfl, OwnB.cast (OwnB.mono s2.own hB) (by unfold linkPutR; rw [if_neg (by first | (rw [hr9]; decide) | (rw [hr1]; decide))]), Is.int s3 (by unfold linkPutR; rw [if_neg (by first | (rw [hr9]; decide) | (rw [hr1]; decide))])⟩ | exact ⟨_, _, rfl, OwnB.cast (OwnB.mono s2.own hB) (by unfold linkPutR; rw [if_pos hr1, List.take_length]; simp [linkPut]), Is.int s3 (by unfold linkPutR; rw [if_pos hr1])⟩
 obtain ⟨hr9, ht2, hty⟩ := linkRight_part hc9
 refine wp_skip ?_
 refine es ?_
 refine wp_reg 64 [[(1, none)], [(22, some 0)], [(1, none)], [(24, some 2)], [(23, some 1), (25, some 3)], [(26, some 4)], [(27, some 5)]] [?b8_0, ?b8_1, ?b8_2, ?b8_3, ?b8_4, ?b8_5, ?b8_5] mixed hr ?t8 ?o8 ?_
 case o8 =>
  apply oc0; intro A W hx hf
  exact ok_fieldS 0 tu36 (k := 0) rfl size33 rfl (o2 s1 e_w2 hx (r0 hf)) rfl
  apply oc0; intro A W hx hf
  exact ok_sliceS tu33 size5 (q0 ?b8_0 A W 22 hf) rfl
  apply oc0; intro A W hx hf
  exact ok_fieldS 1 tu36 (k := 1) rfl size33 rfl (o2 s1 e_w2 hx (r0 hf)) rfl
  apply oc0; intro A W hx hf
  exact ok_sliceS tu33 size5 (q0 ?b8_2 A W 24 hf) rfl
  apply oc0; intro A W hx hf
  exact ok_buildBss [(.tmp 23), (.tmp 25)] [_, _] tu107 size22 zero22 rfl rfl (by decide) (PartsOk.cons (SxS.all (q0 ?b8_1 A W 23 hf) rfl (by decide)) (PartsOk.cons (SxS.all (q1 ?b8_3 A W 25 hf) rfl (by decide)) (PartsOk.nil)))
  apply oc0; intro A W hx hf
  exact ok_call1 body34 (c_concat (q0 ?b8_4 A W 26 hf) hx.size (by simp [hd6, hs6]))
  apply oc0; intro A W hx hf
  exact ok_assign (q0 ?b8_5 A W 27 hf)
  exact onn
 case t8 => exact inferInstance
 clear hr; intro a9 w9 x hr hd hs
 have z_w_w4 := e_w.size
 have z_w2_w4 := e_w2.size
 have l9_1 := PxS.lt (later e_w2 s1)
 revert s1; refine kp1 hs rfl ?_; intro s1
 clear s21
 have s4 := fa ?b8_5 a9 w9 4 (hd 6 4 rfl)
 obtain ⟨g9_4, q9_4⟩ := OwnB.at s4; clear s4; have n9_4 := OwnBA.lt q9_4
 replace q9_4 := OwnBA.mono q9_4 e_w.size
 have s4 := q9_4; clear q9_4
 replace e_w := e_w.trans x
 replace e_w2 := e_w2.trans x; clear hd hs x
 replace s4 := OwnBA.cast s4 (show _ = L.dst ++ L.src ++ (L.tags.take 0).flatMap tagPut from by simp)
 refine es ?_
 refine sq ?_
 refine wp_reg 64 [[(1, none)], [(28, some 0)], [(29, some 1)], []] [?b10_0, ?b10_1, ?b10_2, ?b10_3] mixed hr ?t10 ?o10 ?_
 case o10 =>
  apply oc0; intro A W hx hf
  exact ok_fieldS 2 tu36 (k := 2) rfl size34 rfl (o2 s1 e_w2 hx (r0 hf)) rfl
  apply oc0; intro A W hx hf
  exact ok_isW (ok_loadS tu34 rfl (q0 ?b10_0 A W 28 hf) rfl) hT
  apply oc0; intro A W hx hf
  exact ok_len_rw tu34 (AtW.now (q0 ?b10_1 A W 29 hf) (e_w.trans hx))
  apply oc0; intro A W hx hf
  exact ok_movec
  exact onn
 case t10 => exact inferInstance
 clear hr; intro a11 w11 x hr hd hs
 revert s4; revert s1; refine kp2 hs rfl ?_; intro s1 s4
 have s29 := AtW.base (fa ?b10_1 a11 w11 29 (hd 1 29 rfl))
 have s30 := fa ?b10_2 a11 w11 30 (hd 2 30 rfl)
 have s31 := fa ?b10_3 a11 w11 31 (hd 3 31 rfl)
 replace e_w := e_w.trans x
 replace e_w2 := e_w2.trans x
 have e_w9 := x; clear hd hs x
 refine et ?_
 refine wp_block ?_
 refine wp_loop_inv (fun n A W => ∃ (i β : Nat), n = L.tags.length - i ∧ Fr 64 A ∧ Same D_c_lPut_0 a11 A ∧ Ext w W ∧ (i ≤ L.tags.length) ∧ ((L.tags.take i).all tagOk = true) ∧ (g2_1 ≠ β) ∧ (PxS g2_1 w.heap.size [6, 6, 1, 1, 1] (lnkS L v) 0) (A.eval (.tmp 1)) W ∧ (OwnBA β w.heap.size 5 (L.dst ++ L.src ++ (L.tags.take i).flatMap tagPut)) (A.eval (.tmp 4)) W ∧ (AtW w (Rw tagR L.tags)) (A.eval (.tmp 29)) W ∧ (Is (.int .i64 (L.tags.length : Int))) (A.eval (.tmp 30)) W ∧ (Is (.int .i64 (i : Int))) (A.eval (.tmp 31)) W) ?start12 ?_
 case start12 =>
  refine ⟨_, 0, g9_4, rfl, hr, Same.rfl, e_w, (by omega), (by rfl), (by omega), ?_, ?_, ?_, ?_, ?_⟩
  · exact (later e_w2 s1)
  · exact (later e_w9 s4)
  · exact s29
  · first | exact s30 | exact Is.int s30 (by first | omega | simp) | exact Is.bool s30 (by first | omega | simp)
  · first | exact s31 | exact Is.int s31 (by first | omega | simp) | exact Is.bool s31 (by first | omega | simp)
 intro n12 a12 w12 hI
 clear e_w
 clear e_w2
 clear e_w9
 clear hr; obtain ⟨i, β, hn12, hr, hs, e_w, hi, hall, ne1, u1, u4, u29, u30, u31⟩ := hI
 clear s1 s4 s29 s30 s31
 have s1 := u1; clear u1
 have s4 := u4; clear u4
 have s29 := AtW.base u29; clear u29
 have s30 := u30; clear u30
 have s31 := u31; clear u31
 have m12 := hs; clear hs
 refine sq ?_
 refine wp_reg 64 [[(31, none), (30, none)]] [?b13_0] mixed hr ?t13 ?o13 ?_
 case o13 =>
  apply oc0; intro A W hx hf
  exact ok_lss (o1 s31 hx (r0 hf)) (o1 s30 hx (r1 hf))
  exact onn
 case t13 => exact inferInstance
 clear hr; intro a14 w14 x hr hd hs
 revert s31; revert s30; revert s29; revert s4; revert s1; refine kp5 hs rfl ?_; intro s1 s4 s29 s30 s31
 have s32 := fa ?b13_0 a14 w14 32 (hd 0 32 rfl)
 replace e_w := e_w.trans x
 have e_w12 := x
 replace m12 := m12.tr hs rfl; clear hd hs x
 refine es ?_
 refine wp_cond_split (show _ = _ from s32) (fun hlt => ?_) (fun hlt => ?_)
 ·
  have hlt : i < L.tags.length := by simp at hlt; omega
  obtain ⟨X, hX⟩ : ∃ X, X = L.tags[i]'hlt := ⟨_, rfl⟩
  refine wp_skip ?_
  refine es ?_
  refine wp_block ?_
  refine sq ?_
  refine wp_reg_pre (l := [_, _, _]) (rest := [_]) 64 [[(29, none), (31, none)], [(33, some 0)], []] [?b16_0, ?b16_1, ?b16_2] hr ?t16 ?o16 ?_
  case o16 =>
   apply oc0; intro A W hx hf
   exact ok_index_rw (_) tu34 size97 (o2 s29 e_w hx (r0 hf)) (o2 s31 e_w12 hx (r1 hf)) (by exact hlt)
   apply oc0; intro A W hx hf
   exact ok_loadAll tu97 rfl size97 (q0 ?b16_0 A W 33 hf) (by rfl)
   apply oc0; intro A W hx hf
   exact ok_allocS [[.int .i64 0], [.int .i64 0]] [1, 1] zerov97 (by rfl) (by rfl) hx.size
   exact onn
  case t16 => exact inferInstance
  clear hr; intro a17 w17 x hr hd hs
  have z_w_w14 := e_w.size
  have z_w12_w14 := e_w12.size
  have l17_1 := PxS.lt (later e_w12 s1)
  have l17_4 := OwnBA.lt (later e_w12 s4)
  revert s31; revert s30; revert s29; revert s4; revert s1; refine kp5 hs rfl ?_; intro s1 s4 s29 s30 s31
  clear s32
  have s34 := fa ?b16_1 a17 w17 34 (hd 1 34 rfl)
  have s6 := fa ?b16_2 a17 w17 6 (hd 2 6 rfl)
  obtain ⟨g17_6, q17_6⟩ := PxN.at s6; clear s6; have n17_6 := PxS.lt q17_6
  replace q17_6 := PxS.mono q17_6 e_w.size
  have s6 := q17_6; clear q17_6
  replace e_w := e_w.trans x
  replace e_w12 := e_w12.trans x
  replace m12 := m12.tr hs rfl; clear hd hs x
  have z18 := PxS.lt s6
  have l18 := (show (g17_6 = 0 ∨ w.heap.size < g17_6) ∧ True from ⟨by omega, trivial⟩)
  have l18_1 := PxS.lt (later e_w12 s1)
  have l18_4 := OwnBA.lt (later e_w12 s4)
  refine wl_storeSm [[.int .i64 X.type], [.int .i64 X.tci]] hr size97 s6 (Is.conv s34 (show _ = Value.agg [[Value.int .i64 X.type], [Value.int .i64 X.tci]].flatten.toArray from by rw [hX]; rfl)) (by rfl) (by intro u hu; simp at hu; rcases hu with rfl | rfl <;> rfl) rfl ?_; clear hr; intro a18 w18 hc hu hr hs
  have hb : Below w.heap.size w17 w18 := hc.below e_w.size l18.1
  revert s6; revert s31; revert s30; revert s29; revert s4; revert s1; refine kp6 hs rfl ?_; intro s1 s4 s29 s30 s31 s6
  clear s34
  replace s1 := PxS.other (later e_w12 s1) hc (by omega)
  replace s4 := OwnBA.other (later e_w12 s4) hc (by omega)
  replace s6 := hu _ _ _ s6
  try simp only [List.set_cons_zero, List.set_cons_succ] at s6
  replace e_w := e_w.below (Nat.le_refl _) hb
  clear e_w12
  replace s30 := anyw (w2 := w18) s30
  replace s31 := anyw (w2 := w18) s31
  replace m12 := m12.tr hs rfl
  clear hu hs hc hb
  refine wpList_nil ?_
  refine es ?_
  refine sq ?_
  refine wp_reg 64 [[(6, none)], [(35, some 0)], [(36, some 1)], [(37, some 2)], [(38, some 3)], [(6, none), (39, some 4)], [(40, some 5), (39, some 4)], [(41, some 6), (39, some 4)], [(42, some 7), (39, some 4)], [(39, some 4), (43, some 8)]] [?b19_0, ?b19_1, ?b19_2, ?b19_3, ?b19_3, ?b19_5, ?b19_6, ?b19_7, ?b19_8, ?b19_9] mixed hr ?t19 ?o19 ?_
  case o19 =>
   apply oc0; intro A W hx hf
   exact ok_fieldS 0 tu97 (k := 0) rfl size3 rfl (o1 s6 hx (r0 hf)) rfl
   apply oc0; intro A W hx hf
   exact ok_loadS tu3 rfl (q0 ?b19_0 A W 35 hf) rfl
   apply oc0; intro A W hx hf
   exact ok_call1 body47 (c_ltag (q0 ?b19_1 A W 36 hf))
   apply oc0; intro A W hx hf
   exact ok_not (q0 ?b19_2 A W 37 hf)
   apply oc0; intro A W hx hf
   exact ok_move (q0 ?b19_3 A W 38 hf)
   refine ocg 39 ?_ (fun A W hx hf => ?_) ?_
   rfl
   exact gd_f (q1 ?b19_3 A W 39 hf) (fun hc => ok_fieldS 1 tu97 (k := 1) rfl size3 rfl (o1 s6 hx (r0 hf)) rfl)
   refine ocg 39 ?_ (fun A W hx hf => ?_) ?_
   rfl
   exact gd_f (q1 ?b19_3 A W 39 hf) (fun hc => ok_loadS tu3 rfl (G.get (q0 ?b19_5 A W 40 hf) hc) rfl)
   refine ocg 39 ?_ (fun A W hx hf => ?_) ?_
   rfl
   exact gd_f (q1 ?b19_3 A W 39 hf) (fun hc => ok_call1 body58 (c_lin (G.get (q0 ?b19_6 A W 41 hf) hc)))
   refine ocg 39 ?_ (fun A W hx hf => ?_) ?_
   rfl
   exact gd_f (q1 ?b19_3 A W 39 hf) (fun hc => ok_not (G.get (q0 ?b19_7 A W 42 hf) hc))
   apply oc0; intro A W hx hf
   exact ok_or (q0 ?b19_3 A W 39 hf) (q1 ?b19_8 A W 43 hf)
   exact onn
  case t19 => exact inferInstance
  clear hr; intro a20 w20 x hr hd hs
  revert s31; revert s30; revert s6; revert s4; revert s1; revert s29; refine kp6 hs rfl ?_; intro s29 s1 s4 s6 s30 s31
  have s44 := fa ?b19_9 a20 w20 44 (hd 9 44 rfl)
  replace e_w := e_w.trans x
  have e_w18 := x
  replace m12 := m12.tr hs rfl; clear hd hs x
  refine et ?_
  refine wp_cond_split (show _ = _ from s44) (fun hb9 => ?_) (fun hb9 => ?_)
  ·
   have hok : tagOk (L.tags[i]'hlt) = false := by rw [← hX]; unfold tagOk; revert hb9; cases tagB X.type <;> cases inW X.tci <;> simp
   have hr1 : linkRight L = false := by rw [hr9]; exact all_no hlt hok
   refine sq ?_
   refine wp_reg 64 [[], []] [?b22_0, ?b22_1] mixed hr ?t22 ?o22 ?_
   case o22 =>
    apply oc0; intro A W hx hf
    exact ok_assignv (OwnBA 0 w.heap.size 5 []) (fun _ => ownBA_nil)
    apply oc0; intro A W hx hf
    exact ok_assignc
    exact onn
   case t22 => exact inferInstance
   clear hr; intro a23 w23 x hr hd hs
   clear s29 s1 s4 s6 s30 s31 s44
   have s2 := fa ?b22_0 a23 w23 2 (hd 0 2 rfl)
   have s3 := fa ?b22_1 a23 w23 3 (hd 1 3 rfl)
   replace e_w := e_w.trans x
   clear e_w18
   replace m12 := m12.tr hs rfl; clear hd hs x
   refine et ?_
   refine wp_ret ?_
   refine then_ret ?_
   refine blk_ret ?_
   refine then_ret ?_
   refine then_ret ?_
   refine blk_ret ?_
   refine then_ret ?_
   refine ret_tmp2 Try.results31 hr e_w ?_
   first | exact ⟨_, _, rfl, OwnB.cast (OwnB.mono s2.own hB) (by unfold linkPutR; rw [if_neg (by first | (rw [hr9]; decide) | (rw [hr1]; decide))]), Is.int s3 (by unfold linkPutR; rw [if_neg (by first | (rw [hr9]; decide) | (rw [hr1]; decide))])⟩ | exact ⟨_, _, rfl, OwnB.cast (OwnB.mono s2.own hB) (by unfold linkPutR; rw [if_pos hr1, List.take_length]; simp [linkPut]), Is.int s3 (by unfold linkPutR; rw [if_pos hr1])⟩
  have hokX : tagB X.type = true ∧ inW X.tci = true := by revert hb9; cases tagB X.type <;> cases inW X.tci <;> simp
  have hok : tagOk (L.tags[i]'hlt) = true := by rw [← hX]; unfold tagOk; rw [hokX.1, hokX.2]; rfl
  have b1 := tagB_bd hokX.1
  have b2 := inW_bd hokX.2
  have hfl := tags_len2 ht2 i
  refine wp_skip ?_
  refine es ?_
  refine wp_reg_pre (l := [_, _, _, _, _]) (rest := [_, _]) 64 [[(4, none)], [(6, none)], [(46, some 1)], [(47, some 2)], [(48, some 3)]] [?b24_0, ?b24_1, ?b24_2, ?b24_3, ?b24_4] hr ?t24 ?o24 ?_
  case o24 =>
   apply oc0; intro A W hx hf
   exact ok_movE (a0 := a20) (r0 hf)
   apply oc0; intro A W hx hf
   exact ok_fieldS 0 tu97 (k := 0) rfl size3 rfl (o2 s6 e_w18 hx (r0 hf)) rfl
   apply oc0; intro A W hx hf
   exact ok_loadS tu3 rfl (q0 ?b24_1 A W 46 hf) rfl
   apply oc0; intro A W hx hf
   exact ok_convI tu3 tu105 (by exact IntWalk.u64_in _ (by omega)) (q0 ?b24_2 A W 47 hf)
   apply oc0; intro A W hx hf
   exact ok_call3 body59 (c_Put (q0 ?b24_3 A W 48 hf) (show Is (.int .i64 2) (A.eval (.const (.int .i64 2))) _ from rfl) (show Is (.bool true) (A.eval (.const (.bool true))) _ from rfl) (by omega) hx.size)
   exact onn
  case t24 => exact inferInstance
  clear hr; intro a25 w25 x hr hd hs
  have z_w_w20 := e_w.size
  have z_w18_w20 := e_w18.size
  have l25_1 := PxS.lt (later e_w18 s1)
  have l25_4 := OwnBA.lt (later e_w18 s4)
  have l25_6 := PxS.lt (later e_w18 s6)
  have u45 := mv s4 (fa ?b24_0 a25 w25 45 (hd 0 45 rfl))
  revert s31; revert s30; revert s6; revert s4; revert s1; revert s29; refine kp6 hs rfl ?_; intro s29 s1 s4 s6 s30 s31
  clear s44
  have s45 := u45; clear u45
  have s49 := fa ?b24_4 a25 w25 49 (hd 4 49 rfl)
  obtain ⟨g25_49, q25_49⟩ := OwnB.at s49; clear s49; have n25_49 := OwnBA.lt q25_49
  replace q25_49 := OwnBA.mono q25_49 e_w.size
  have s49 := q25_49; clear q25_49
  replace e_w := e_w.trans x
  replace e_w18 := e_w18.trans x
  replace m12 := m12.tr hs rfl; clear hd hs x
  have l26 := OwnBA.lt (later e_w18 s45)
  have l26_1 := PxS.lt (later e_w18 s1)
  have l26_6 := PxS.lt (later e_w18 s6)
  refine wl_append_bsA hr (by decide) tu22 info5 rfl (later e_w18 s45) (OwnBA.bs s49) e_w.size (by have hfl2 := tags_len2 ht2 L.tags.length; first | (simp only [List.length_append, put2_len]; omega) | (simp only [List.length_append, put2_len, List.take_length] at *; omega)) ?_; clear hr; intro g26 a26 w26 hg26 hc hr hd hs
  have hb := hc.below e_w.size l26.1
  revert s31; revert s30; revert s6; revert s1; revert s29; refine kp5 hs rfl ?_; intro s29 s1 s6 s30 s31
  clear s4 s45 s49
  replace s1 := PxS.other (later e_w18 s1) hc (by omega)
  replace s6 := PxS.other (later e_w18 s6) hc (by omega)
  have s50 := hd
  replace e_w := e_w.below (Nat.le_refl _) hb
  clear e_w18
  replace s30 := anyw (w2 := w26) s30
  replace s31 := anyw (w2 := w26) s31
  replace m12 := m12.tr hs rfl
  clear hd hs hb hc
  refine wl_op hr (ok_assign s50) inferInstance ?_; clear hr; intro a27 w27 x hr hd hs
  revert s31; revert s30; revert s6; revert s1; revert s29; refine kp5 hs rfl ?_; intro s29 s1 s6 s30 s31
  clear s50
  have s4 := hd 4 rfl (by decide)
  replace e_w := e_w.trans x
  have e_w26 := x
  replace m12 := m12.tr hs rfl; clear hd hs x
  refine wpList_nil ?_
  refine et ?_
  refine wp_reg_pre (l := [_, _, _, _, _]) (rest := [_, _]) 64 [[(4, none)], [(6, none)], [(52, some 1)], [(53, some 2)], [(54, some 3)]] [?b28_0, ?b28_1, ?b28_2, ?b28_3, ?b28_4] hr ?t28 ?o28 ?_
  case o28 =>
   apply oc0; intro A W hx hf
   exact ok_movE (a0 := a27) (r0 hf)
   apply oc0; intro A W hx hf
   exact ok_fieldS 1 tu97 (k := 1) rfl size3 rfl (o2 s6 e_w26 hx (r0 hf)) rfl
   apply oc0; intro A W hx hf
   exact ok_loadS tu3 rfl (q0 ?b28_1 A W 52 hf) rfl
   apply oc0; intro A W hx hf
   exact ok_convI tu3 tu105 (by exact IntWalk.u64_in _ (by omega)) (q0 ?b28_2 A W 53 hf)
   apply oc0; intro A W hx hf
   exact ok_call3 body59 (c_Put (q0 ?b28_3 A W 54 hf) (show Is (.int .i64 2) (A.eval (.const (.int .i64 2))) _ from rfl) (show Is (.bool true) (A.eval (.const (.bool true))) _ from rfl) (by omega) hx.size)
   exact onn
  case t28 => exact inferInstance
  clear hr; intro a29 w29 x hr hd hs
  have z_w_w27 := e_w.size
  have z_w26_w27 := e_w26.size
  have l29_1 := PxS.lt (later e_w26 s1)
  have l29_6 := PxS.lt (later e_w26 s6)
  have l29_4 := OwnBA.lt s4
  have u51 := mv s4 (fa ?b28_0 a29 w29 51 (hd 0 51 rfl))
  revert s4; revert s31; revert s30; revert s1; revert s29; refine kp5 hs rfl ?_; intro s29 s1 s30 s31 s4
  clear s6
  have s51 := u51; clear u51
  have s55 := fa ?b28_4 a29 w29 55 (hd 4 55 rfl)
  obtain ⟨g29_55, q29_55⟩ := OwnB.at s55; clear s55; have n29_55 := OwnBA.lt q29_55
  replace q29_55 := OwnBA.mono q29_55 e_w.size
  have s55 := q29_55; clear q29_55
  replace e_w := e_w.trans x
  replace e_w26 := e_w26.trans x
  have e_w27 := x
  replace m12 := m12.tr hs rfl; clear hd hs x
  have l30 := OwnBA.lt (later e_w27 s51)
  have l30_1 := PxS.lt (later e_w26 s1)
  refine wl_append_bsA hr (by decide) tu22 info5 rfl (later e_w27 s51) (OwnBA.bs s55) e_w.size (by have hfl2 := tags_len2 ht2 L.tags.length; first | (simp only [List.length_append, put2_len]; omega) | (simp only [List.length_append, put2_len, List.take_length] at *; omega)) ?_; clear hr; intro g30 a30 w30 hg30 hc hr hd hs
  have hb := hc.below e_w.size l30.1
  revert s31; revert s30; revert s1; revert s29; refine kp4 hs rfl ?_; intro s29 s1 s30 s31
  clear s4 s51 s55
  replace s1 := PxS.other (later e_w26 s1) hc (by omega)
  have s56 := hd
  replace e_w := e_w.below (Nat.le_refl _) hb
  clear e_w26
  clear e_w27
  replace s30 := anyw (w2 := w30) s30
  replace s31 := anyw (w2 := w30) s31
  replace m12 := m12.tr hs rfl
  clear hd hs hb hc
  refine wl_op hr (ok_assign s56) inferInstance ?_; clear hr; intro a31 w31 x hr hd hs
  revert s31; revert s30; revert s1; revert s29; refine kp4 hs rfl ?_; intro s29 s1 s30 s31
  clear s56
  have s4 := hd 4 rfl (by decide)
  replace e_w := e_w.trans x
  have e_w30 := x
  replace m12 := m12.tr hs rfl; clear hd hs x
  refine wpList_nil ?_
  refine blk_normal ?_
  refine et ?_
  refine wp_reg 64 [[(31, none)], [(57, some 0)]] [?b32_0, ?b32_0] mixed hr ?t32 ?o32 ?_
  case o32 =>
   apply oc0; intro A W hx hf
   exact ok_addI (o2 s31 e_w30 hx (r0 hf)) (ec A (.int .i64 1)) (by omega)
   apply oc0; intro A W hx hf
   exact ok_move (q0 ?b32_0 A W 57 hf)
   exact onn
  case t32 => exact inferInstance
  clear hr; intro a33 w33 x hr hd hs
  revert s4; revert s30; revert s1; revert s29; refine kp4 hs rfl ?_; intro s29 s1 s30 s4
  clear s31
  have s31 := fa ?b32_0 a33 w33 31 (hd 1 31 rfl)
  replace e_w := e_w.trans x
  replace e_w30 := e_w30.trans x
  have e_w31 := x
  replace m12 := m12.tr hs rfl; clear hd hs x
  refine et ?_
  refine ⟨(fun (i β : Nat) => L.tags.length - i) (i + 1) (0), ?_, ?_⟩
  · (try dsimp only); omega
  refine ⟨i + 1, g30, rfl, hr, m12, e_w, (by omega), (by exact all_step hlt hall hok), (by omega), ?_, ?_, ?_, ?_, ?_⟩
  · exact (later e_w30 s1)
  · exact OwnBA.cast (later e_w31 s4) (by rw [tags_step hlt, ← hX]; simp [tagPut])
  · exact s29
  · first | exact (later e_w30 s30) | exact Is.int (later e_w30 s30) (by first | omega | simp) | exact Is.bool (later e_w30 s30) (by first | omega | simp)
  · first | exact s31 | exact Is.int s31 (by first | omega | simp) | exact Is.bool s31 (by first | omega | simp)
 have hlt : i = L.tags.length := by simp at hlt; omega
 subst hlt
 rw [List.take_length] at hall
 have hr1 : linkRight L = true := by rw [hr9]; exact hall
 refine wp_exit ?_
 refine then_exit ?_
 refine then_exit ?_
 refine blk_exit ?_
 refine es ?_
 refine wp_reg_pre (l := [_, _, _, _, _]) (rest := [_, _, _]) 64 [[(4, none)], [(1, none)], [(59, some 1)], [(60, some 2)], [(61, some 3)]] [?b34_0, ?b34_1, ?b34_2, ?b34_3, ?b34_4] hr ?t34 ?o34 ?_
 case o34 =>
  apply oc0; intro A W hx hf
  exact ok_movE (a0 := a14) (r0 hf)
  apply oc0; intro A W hx hf
  exact ok_fieldS 3 tu36 (k := 3) rfl size3 rfl (o2 s1 e_w12 hx (r0 hf)) rfl
  apply oc0; intro A W hx hf
  exact ok_loadS tu3 rfl (q0 ?b34_1 A W 59 hf) rfl
  apply oc0; intro A W hx hf
  exact ok_convI tu3 tu105 (by exact IntWalk.u64_in _ (by omega)) (q0 ?b34_2 A W 60 hf)
  apply oc0; intro A W hx hf
  exact ok_call3 body59 (c_Put (q0 ?b34_3 A W 61 hf) (show Is (.int .i64 2) (A.eval (.const (.int .i64 2))) _ from rfl) (show Is (.bool true) (A.eval (.const (.bool true))) _ from rfl) (by omega) hx.size)
  exact onn
 case t34 => exact inferInstance
 clear hr; intro a35 w35 x hr hd hs
 have z_w_w14 := e_w.size
 have z_w12_w14 := e_w12.size
 have l35_1 := PxS.lt (later e_w12 s1)
 have l35_4 := OwnBA.lt (later e_w12 s4)
 have u58 := mv s4 (fa ?b34_0 a35 w35 58 (hd 0 58 rfl))
 clear s1 s4 s29 s30 s31 s32
 have s58 := u58; clear u58
 have s62 := fa ?b34_4 a35 w35 62 (hd 4 62 rfl)
 obtain ⟨g35_62, q35_62⟩ := OwnB.at s62; clear s62; have n35_62 := OwnBA.lt q35_62
 replace q35_62 := OwnBA.mono q35_62 e_w.size
 have s62 := q35_62; clear q35_62
 replace e_w := e_w.trans x
 replace e_w12 := e_w12.trans x; clear hd hs x
 have l36 := OwnBA.lt (later e_w12 s58)
 refine wl_append_bsA hr (by decide) tu22 info5 rfl (later e_w12 s58) (OwnBA.bs s62) e_w.size (by have hfl2 := tags_len2 ht2 L.tags.length; first | (simp only [List.length_append, put2_len]; omega) | (simp only [List.length_append, put2_len, List.take_length] at *; omega)) ?_; clear hr; intro g36 a36 w36 hg36 hc hr hd hs
 have hb := hc.below e_w.size l36.1
 clear s58 s62
 have s63 := hd
 replace e_w := e_w.below (Nat.le_refl _) hb
 clear e_w12
 clear hd hs hb hc
 refine wl_op hr (ok_assign s63) inferInstance ?_; clear hr; intro a37 w37 x hr hd hs
 clear s63
 have s2 := hd 2 rfl (by decide)
 replace e_w := e_w.trans x; clear hd hs x
 refine wl_op hr (ok_assignc) inferInstance ?_; clear hr; intro a38 w38 x hr hd hs
 revert s2; refine kp1 hs rfl ?_; intro s2
 have s3 := hd 3 rfl (by decide)
 replace e_w := e_w.trans x
 have e_w37 := x; clear hd hs x
 refine wpList_nil ?_
 refine et ?_
 refine wp_ret ?_
 refine ret_tmp2 Try.results31 hr e_w ?_
 first | exact ⟨_, _, rfl, OwnB.cast (OwnB.mono (later e_w37 s2).own hB) (by unfold linkPutR; rw [if_neg (by first | (rw [hr9]; decide) | (rw [hr1]; decide))]), Is.int s3 (by unfold linkPutR; rw [if_neg (by first | (rw [hr9]; decide) | (rw [hr1]; decide))])⟩ | exact ⟨_, _, rfl, OwnB.cast (OwnB.mono (later e_w37 s2).own hB) (by unfold linkPutR; rw [if_pos hr1, List.take_length]; simp [linkPut]), Is.int s3 (by unfold linkPutR; rw [if_pos hr1])⟩

end Go.Proofs.Ytpjpfmnnefgnbaa
