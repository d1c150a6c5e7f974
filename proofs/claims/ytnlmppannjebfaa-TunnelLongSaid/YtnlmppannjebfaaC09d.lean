import Derived.Test.YtnlmppannjebfaaC09a
namespace Go.Proofs.Ytnlmppannjebfaa
open Go.RowKit
set_option linter.unusedVariables false
set_option linter.unusedSimpArgs false
set_option maxRecDepth 4000
theorem c_r9Ext {x0 : Value} {w : World} {p : Int} (h0 : (Is (.int .i64 p)) x0 w)  :
    Calls Try.prog 53 #[x0] w (Ret (Is (.bool (extB p))) w) := by
 refine enter Try.func53 rfl Try.ntmps53 (k := 1) rfl (by decide) (fun a0 hr hargs => ?_)
 have s0 := sarg h0 (hargs 0 (by decide))
 clear hargs
 refine wp_seq ?_
 refine wp_reg 21 [[]] [?b1_0] mixed hr ?t1 ?o1 ?_
 case o1 =>
  refine oc0 (fun A W hx hf => ?_) ?_
  exact ok_assignc
  exact OpsOk.nil
 case t1 => exact inferInstance
 clear hr; intro a2 w2 x hr hd hs
 revert s0; refine kp1 hs rfl ?_; intro s0
 have e_w := x
 clear hd hs x
 refine exit_then ?_
 refine wp_seq ?_
 refine wp_reg 21 [[(0, none)], [(3, some 0)], [(4, some 1)], [(0, none), (5, some 2)], [(6, some 3), (5, some 2)], [(5, some 2), (7, some 4)], [(8, some 5)], [(0, none), (9, some 6)], [(10, some 7), (9, some 6)], [(9, some 6), (11, some 8)], [(12, some 9)], [(0, none), (13, some 10)], [(14, some 11), (13, some 10)], [(13, some 10), (15, some 12)], [(16, some 13)], [(0, none), (17, some 14)], [(18, some 15), (17, some 14)], [(17, some 14), (19, some 16)], [(20, some 17)]] [?b3_0, ?b3_1, ?b3_1, ?b3_3, ?b3_4, ?b3_5, ?b3_5, ?b3_7, ?b3_8, ?b3_9, ?b3_9, ?b3_11, ?b3_12, ?b3_13, ?b3_13, ?b3_15, ?b3_16, ?b3_17, ?b3_17] mixed hr ?t3 ?o3 ?_
 case o3 =>
  refine oc0 (fun A W hx hf => ?_) ?_
  exact ok_movE (a0 := a2) (r0 hf)
  refine oc0 (fun A W hx hf => ?_) ?_
  exact ok_eql (p2 s0 e_w hx (q0 ?b3_0 A W 3 hf)) (ec A (.int .i64 0))
  refine oc0 (fun A W hx hf => ?_) ?_
  exact ok_move (q0 ?b3_1 A W 4 hf)
  refine ocg 5 ?_ (fun A W hx hf => ?_) ?_
  rfl
  exact gd_f (q1 ?b3_1 A W 5 hf) (fun hc => ok_movE (a0 := a2) (r0 hf))
  refine ocg 5 ?_ (fun A W hx hf => ?_) ?_
  rfl
  exact gd_f (q1 ?b3_1 A W 5 hf) (fun hc => ok_eql (p2 s0 e_w hx (G.get (q0 ?b3_3 A W 6 hf) hc)) (ec A (.int .i64 43)))
  refine oc0 (fun A W hx hf => ?_) ?_
  exact ok_or (q0 ?b3_1 A W 5 hf) (q1 ?b3_4 A W 7 hf)
  refine oc0 (fun A W hx hf => ?_) ?_
  exact ok_move (q0 ?b3_5 A W 8 hf)
  refine ocg 9 ?_ (fun A W hx hf => ?_) ?_
  rfl
  exact gd_f (q1 ?b3_5 A W 9 hf) (fun hc => ok_movE (a0 := a2) (r0 hf))
  refine ocg 9 ?_ (fun A W hx hf => ?_) ?_
  rfl
  exact gd_f (q1 ?b3_5 A W 9 hf) (fun hc => ok_eql (p2 s0 e_w hx (G.get (q0 ?b3_7 A W 10 hf) hc)) (ec A (.int .i64 60)))
  refine oc0 (fun A W hx hf => ?_) ?_
  exact ok_or (q0 ?b3_5 A W 9 hf) (q1 ?b3_8 A W 11 hf)
  refine oc0 (fun A W hx hf => ?_) ?_
  exact ok_move (q0 ?b3_9 A W 12 hf)
  refine ocg 13 ?_ (fun A W hx hf => ?_) ?_
  rfl
  exact gd_f (q1 ?b3_9 A W 13 hf) (fun hc => ok_movE (a0 := a2) (r0 hf))
  refine ocg 13 ?_ (fun A W hx hf => ?_) ?_
  rfl
  exact gd_f (q1 ?b3_9 A W 13 hf) (fun hc => ok_eql (p2 s0 e_w hx (G.get (q0 ?b3_11 A W 14 hf) hc)) (ec A (.int .i64 51)))
  refine oc0 (fun A W hx hf => ?_) ?_
  exact ok_or (q0 ?b3_9 A W 13 hf) (q1 ?b3_12 A W 15 hf)
  refine oc0 (fun A W hx hf => ?_) ?_
  exact ok_move (q0 ?b3_13 A W 16 hf)
  refine ocg 17 ?_ (fun A W hx hf => ?_) ?_
  rfl
  exact gd_f (q1 ?b3_13 A W 17 hf) (fun hc => ok_movE (a0 := a2) (r0 hf))
  refine ocg 17 ?_ (fun A W hx hf => ?_) ?_
  rfl
  exact gd_f (q1 ?b3_13 A W 17 hf) (fun hc => ok_eql (p2 s0 e_w hx (G.get (q0 ?b3_15 A W 18 hf) hc)) (ec A (.int .i64 44)))
  refine oc0 (fun A W hx hf => ?_) ?_
  exact ok_or (q0 ?b3_13 A W 17 hf) (q1 ?b3_16 A W 19 hf)
  refine oc0 (fun A W hx hf => ?_) ?_
  exact ok_assign (q0 ?b3_17 A W 20 hf)
  exact OpsOk.nil
 case t3 => exact inferInstance
 clear hr; intro a4 w4 x hr hd hs
 clear s0
 have s2 := fa ?b3_17 a4 w4 2 (hd 18 2 rfl)
 replace e_w := e_w.trans x
 clear hd hs x
 refine exit_then ?_
 refine wp_ret ?_
 refine ret_tmp Try.results53 hr e_w ?_
 exact Is.bool s2 rfl

theorem c_r9size {x0 x1 x2 : Value} {w : World} {p z : Int} {l : List UInt8} (h0 : (Is (.int .i64 p)) x0 w) (h1 : (Bs l) x1 w) (h2 : (Is (.int .i64 z)) x2 w) (he : extB p = true) (hz0 : 0 ≤ z) (hz1 : z.toNat + 1 < l.length) :
    Calls Try.prog 54 #[x0, x1, x2] w (Ret (Is (.int .i64 (sizeE p (byteAt l (z.toNat + 1))))) w) := by
 have hlen := Bs.len_le h1
 obtain ⟨q, rfl⟩ : ∃ q : Nat, z = (q : Int) := ⟨z.toNat, by omega⟩
 simp only [Int.toNat_natCast] at hz1 ⊢
 have e1 : (l[q + 1]'(by omega)).toNat = byteAt l (q + 1) := (byteAt_get (by omega)).symm
 have b1 := byteAt_bd l (q + 1)
 refine enter Try.func54 rfl Try.ntmps54 (k := 3) rfl (by decide) (fun a0 hr hargs => ?_)
 have s0 := sarg h0 (hargs 0 (by decide))
 have s1 := sarg h1 (hargs 1 (by decide))
 have s2 := sarg h2 (hargs 2 (by decide))
 clear hargs
 refine wp_seq ?_
 refine wp_reg 27 [[]] [?b1_0] mixed hr ?t1 ?o1 ?_
 case o1 =>
  refine oc0 (fun A W hx hf => ?_) ?_
  exact ok_assignc
  exact OpsOk.nil
 case t1 => exact inferInstance
 clear hr; intro a2 w2 x hr hd hs
 revert s2; revert s1; revert s0; refine kp3 hs rfl ?_; intro s0 s1 s2
 have e_w := x
 clear hd hs x
 refine exit_then ?_
 refine wp_seq ?_
 refine wp_seq ?_
 refine wp_reg 27 [[(0, none)], [(7, some 0)]] [?b3_0, ?b3_1] mixed hr ?t3 ?o3 ?_
 case o3 =>
  refine oc0 (fun A W hx hf => ?_) ?_
  exact ok_movE (a0 := a2) (r0 hf)
  refine oc0 (fun A W hx hf => ?_) ?_
  exact ok_eql (p2 s0 e_w hx (q0 ?b3_0 A W 7 hf)) (ec A (.int .i64 44))
  exact OpsOk.nil
 case t3 => exact inferInstance
 clear hr; intro a4 w4 x hr hd hs
 revert s2; revert s1; revert s0; refine kp3 hs rfl ?_; intro s0 s1 s2
 have s8 := fa ?b3_1 a4 w4 8 (hd 1 8 rfl)
 replace e_w := e_w.trans x
 clear hd hs x
 refine exit_then ?_
 refine wp_cond_split (show _ = _ from s8) (fun h44 => ?_) (fun h44 => ?_)
 ·
  have h44 : p = 44 := by simpa using h44
  refine wp_seq ?_
  refine wp_reg 27 [[]] [?b6_0] mixed hr ?t6 ?o6 ?_
  case o6 =>
   refine oc0 (fun A W hx hf => ?_) ?_
   exact ok_assignc
   exact OpsOk.nil
  case t6 => exact inferInstance
  clear hr; intro a7 w7 x hr hd hs
  clear s0 s1 s2 s8
  have s6 := fa ?b6_0 a7 w7 6 (hd 0 6 rfl)
  replace e_w := e_w.trans x
  clear hd hs x
  refine exit_then ?_
  refine wp_ret ?_
  refine then_ret ?_
  refine ret_tmp Try.results54 hr e_w ?_
  first | exact Is.int s6 (size_44 h44).symm | exact Is.int s6 (by rw [size_51 h51]; omega) | exact Is.int s6 (by rw [size_8 he h51 h44]; omega)
 ·
  have h44 : p ≠ 44 := by simpa using h44
  refine wp_skip ?_
  refine exit_then ?_
  refine wp_seq ?_
  refine wp_seq ?_
  refine wp_reg 27 [[(0, none)], [(9, some 0)]] [?b8_0, ?b8_1] mixed hr ?t8 ?o8 ?_
  case o8 =>
   refine oc0 (fun A W hx hf => ?_) ?_
   exact ok_movE (a0 := a4) (r0 hf)
   refine oc0 (fun A W hx hf => ?_) ?_
   exact ok_eql (p2 s0 e_w hx (q0 ?b8_0 A W 9 hf)) (ec A (.int .i64 51))
   exact OpsOk.nil
  case t8 => exact inferInstance
  clear hr; intro a9 w9 x hr hd hs
  revert s2; revert s1; refine kp2 hs rfl ?_; intro s1 s2
  clear s0 s8
  have s10 := fa ?b8_1 a9 w9 10 (hd 1 10 rfl)
  replace e_w := e_w.trans x
  clear hd hs x
  refine exit_then ?_
  refine wp_cond_split (show _ = _ from s10) (fun h51 => ?_) (fun h51 => ?_)
  ·
   have h51 : p = 51 := by simpa using h51
   refine wp_seq ?_
   refine wp_reg 27 [[(1, none)], [(2, none)], [(12, some 1)], [(11, some 0), (13, some 2)], [(14, some 3)], [(15, some 4)], [(16, some 5)], [(17, some 6)], [(18, some 7)]] [?b11_0, ?b11_1, ?b11_2, ?b11_3, ?b11_4, ?b11_5, ?b11_6, ?b11_7, ?b11_7] mixed hr ?t11 ?o11 ?_
   case o11 =>
    refine oc0 (fun A W hx hf => ?_) ?_
    exact ok_movE (a0 := a9) (r0 hf)
    refine oc0 (fun A W hx hf => ?_) ?_
    exact ok_movE (a0 := a9) (r0 hf)
    refine oc0 (fun A W hx hf => ?_) ?_
    exact ok_addI (p2 s2 e_w hx (q0 ?b11_1 A W 12 hf)) (ec A (.int .i64 1)) (by omega)
    refine oc0 (fun A W hx hf => ?_) ?_
    exact ok_index_bs (q + 1) Try.underlying22 size5 (p2 s1 e_w hx (q0 ?b11_0 A W 11 hf)) (Is.int (q1 ?b11_2 A W 13 hf) (by omega)) (by omega)
    refine oc0 (fun A W hx hf => ?_) ?_
    exact ok_loadp Try.underlying5 rfl (q0 ?b11_3 A W 14 hf)
    refine oc0 (fun A W hx hf => ?_) ?_
    exact ok_convB Try.underlying5 Try.underlying3 (by decide) (q0 ?b11_4 A W 15 hf)
    refine oc0 (fun A W hx hf => ?_) ?_
    exact ok_mulI (ec A (.int .i64 4)) (q0 ?b11_5 A W 16 hf) (by omega)
    refine oc0 (fun A W hx hf => ?_) ?_
    exact ok_addI (ec A (.int .i64 8)) (q0 ?b11_6 A W 17 hf) (by omega)
    refine oc0 (fun A W hx hf => ?_) ?_
    exact ok_assign (q0 ?b11_7 A W 18 hf)
    exact OpsOk.nil
   case t11 => exact inferInstance
   clear hr; intro a12 w12 x hr hd hs
   clear s1 s2 s10
   have s6 := fa ?b11_7 a12 w12 6 (hd 8 6 rfl)
   replace e_w := e_w.trans x
   clear hd hs x
   refine exit_then ?_
   refine wp_ret ?_
   refine then_ret ?_
   refine ret_tmp Try.results54 hr e_w ?_
   first | exact Is.int s6 (size_44 h44).symm | exact Is.int s6 (by rw [size_51 h51]; omega) | exact Is.int s6 (by rw [size_8 he h51 h44]; omega)
  ·
   have h51 : p ≠ 51 := by simpa using h51
   refine wp_skip ?_
   refine exit_then ?_
   refine wp_seq ?_
   refine wp_reg 27 [[(1, none)], [(2, none)], [(20, some 1)], [(19, some 0), (21, some 2)], [(22, some 3)], [(23, some 4)], [(24, some 5)], [(25, some 6)], [(26, some 7)]] [?b13_0, ?b13_1, ?b13_2, ?b13_3, ?b13_4, ?b13_5, ?b13_6, ?b13_7, ?b13_7] mixed hr ?t13 ?o13 ?_
   case o13 =>
    refine oc0 (fun A W hx hf => ?_) ?_
    exact ok_movE (a0 := a9) (r0 hf)
    refine oc0 (fun A W hx hf => ?_) ?_
    exact ok_movE (a0 := a9) (r0 hf)
    refine oc0 (fun A W hx hf => ?_) ?_
    exact ok_addI (p2 s2 e_w hx (q0 ?b13_1 A W 20 hf)) (ec A (.int .i64 1)) (by omega)
    refine oc0 (fun A W hx hf => ?_) ?_
    exact ok_index_bs (q + 1) Try.underlying22 size5 (p2 s1 e_w hx (q0 ?b13_0 A W 19 hf)) (Is.int (q1 ?b13_2 A W 21 hf) (by omega)) (by omega)
    refine oc0 (fun A W hx hf => ?_) ?_
    exact ok_loadp Try.underlying5 rfl (q0 ?b13_3 A W 22 hf)
    refine oc0 (fun A W hx hf => ?_) ?_
    exact ok_convB Try.underlying5 Try.underlying3 (by decide) (q0 ?b13_4 A W 23 hf)
    refine oc0 (fun A W hx hf => ?_) ?_
    exact ok_mulI (ec A (.int .i64 8)) (q0 ?b13_5 A W 24 hf) (by omega)
    refine oc0 (fun A W hx hf => ?_) ?_
    exact ok_addI (ec A (.int .i64 8)) (q0 ?b13_6 A W 25 hf) (by omega)
    refine oc0 (fun A W hx hf => ?_) ?_
    exact ok_assign (q0 ?b13_7 A W 26 hf)
    exact OpsOk.nil
   case t13 => exact inferInstance
   clear hr; intro a14 w14 x hr hd hs
   clear s1 s2 s10
   have s6 := fa ?b13_7 a14 w14 6 (hd 8 6 rfl)
   replace e_w := e_w.trans x
   clear hd hs x
   refine exit_then ?_
   refine wp_ret ?_
   refine ret_tmp Try.results54 hr e_w ?_
   first | exact Is.int s6 (size_44 h44).symm | exact Is.int s6 (by rw [size_51 h51]; omega) | exact Is.int s6 (by rw [size_8 he h51 h44]; omega)

def D_c_r9addr_0 : List Tmp := [6, 8, 9, 10, 11, 12, 13, 14, 15, 16, 17, 18, 19, 20]
theorem c_r9addr {x0 x1 : Value} {w : World} {l : List UInt8} {z : Int} (h0 : (Bs l) x0 w) (h1 : (Is (.int .i64 z)) x1 w) (hz0 : 0 ≤ z) (hz1 : z.toNat + 16 ≤ l.length) :
    Calls Try.prog 52 #[x0, x1] w (Ret (Is (AdrV (adr6 l z.toNat))) w) := by
 have hlen := Bs.len_le h0
 obtain ⟨q, rfl⟩ : ∃ q : Nat, z = (q : Int) := ⟨z.toNat, by omega⟩
 simp only [Int.toNat_natCast] at hz1 ⊢
 refine enter Try.func52 rfl Try.ntmps52 (k := 2) rfl (by decide) (fun a0 hr hargs => ?_)
 have s0 := sarg h0 (hargs 0 (by decide))
 have s1 := sarg h1 (hargs 1 (by decide))
 clear hargs
 refine wp_seq ?_
 refine wp_reg 22 [[]] [?b1_0] mixed hr ?t1 ?o1 ?_
 case o1 =>
  refine oc0 (fun A W hx hf => ?_) ?_
  exact ok_allocS [adrCells adr0] [17] zerov25 (by rfl) (by rfl) hx.size
  exact OpsOk.nil
 case t1 => exact inferInstance
 clear hr; intro a2 w2 x hr hd hs
 revert s1; revert s0; refine kp2 hs rfl ?_; intro s0 s1
 have s4 := fa ?b1_0 a2 w2 4 (hd 0 4 rfl)
 obtain ⟨g2_4, q2_4⟩ := PxN.at s4; clear s4; have n2_4 := PxS.lt q2_4
 have s4 := q2_4; clear q2_4
 have e_w := x
 clear hd hs x
 refine exit_then ?_
 refine wp_seq ?_
 refine wp_reg_pre (l := [_, _]) (rest := [_]) 22 [[], []] [?b3_0, ?b3_1] hr ?t3 ?o3 ?_
 case o3 =>
  refine oc0 (fun A W hx hf => ?_) ?_
  exact ok_buildS [(0, (.const (.bool true)))] [(0, _)] lay25 rfl (PartsC.one (ec A (.bool true)) rfl (PartsC.nil)) (by first | rfl | simp [adrCells, *])
  refine oc0 (fun A W hx hf => ?_) ?_
  exact ok_allocS [[.bool false], (List.replicate 16 0).map byteV] [1, 16] zerov25 (by rfl) (by rfl) hx.size
  exact OpsOk.nil
 case t3 => exact inferInstance
 clear hr; intro a4 w4 x hr hd hs
 have z_w_w2 := e_w.size
 have l4_4 := PxS.lt s4
 revert s4; revert s1; revert s0; refine kp3 hs rfl ?_; intro s0 s1 s4
 have s7 := fa ?b3_0 a4 w4 7 (hd 0 7 rfl)
 have s5 := fa ?b3_1 a4 w4 5 (hd 1 5 rfl)
 obtain ⟨g4_5, q4_5⟩ := PxN.at s5; clear s5; have n4_5 := PxS.lt q4_5
 replace q4_5 := PxS.mono q4_5 e_w.size
 have s5 := q4_5; clear q4_5
 replace e_w := e_w.trans x
 have e_w2 := x
 clear hd hs x
 have z5 := PxS.lt s5
 have l5 := (show (g4_5 = 0 ∨ w.heap.size < g4_5) ∧ True from ⟨by omega, trivial⟩)
 have l5_4 := PxS.lt (later e_w2 s4)
 refine wl_storeSm [[.bool true], (List.replicate 16 0).map byteV] hr size25 s5 s7 (by rfl) (by intro u hu; simp at hu; rcases hu with rfl | rfl <;> rfl) rfl ?_; clear hr; intro a5 w5 hc hu hr hs
 have hb : Below w.heap.size w4 w5 := hc.below e_w.size l5.1
 revert s5; revert s4; revert s1; revert s0; refine kp4 hs rfl ?_; intro s0 s1 s4 s5
 clear s7
 replace s4 := PxS.other (later e_w2 s4) hc (by omega)
 replace s5 := hu _ _ _ s5
 try simp only [List.set_cons_zero, List.set_cons_succ] at s5
 replace e_w := e_w.below (Nat.le_refl _) hb
 clear e_w2
 clear hu hs hc hb
 refine wpList_nil ?_
 refine exit_then ?_
 refine wp_seq ?_
 refine wp_seq ?_
 refine wp_reg 22 [[]] [?b6_0] mixed hr ?t6 ?o6 ?_
 case o6 =>
  refine oc0 (fun A W hx hf => ?_) ?_
  exact ok_assignc
  exact OpsOk.nil
 case t6 => exact inferInstance
 clear hr; intro a7 w7 x hr hd hs
 revert s5; revert s4; revert s1; revert s0; refine kp4 hs rfl ?_; intro s0 s1 s4 s5
 have s6 := fa ?b6_0 a7 w7 6 (hd 0 6 rfl)
 replace e_w := e_w.trans x
 have e_w5 := x
 clear hd hs x
 refine exit_then ?_
 refine wp_block ?_
 refine wp_loop_inv (fun n A W => ∃ (i : Nat), n = 16 - i ∧ Fr 22 A ∧ Same D_c_r9addr_0 a7 A ∧ Ext w W ∧ (i ≤ 16) ∧ (PxS g2_4 w.heap.size [17] [adrCells adr0] 0) (A.eval (.tmp 4)) W ∧ (PxS g4_5 w.heap.size [1, 16] [[.bool true], (adr6p l q i).map byteV] 0) (A.eval (.tmp 5)) W ∧ (Is (.int .i64 (i : Int))) (A.eval (.tmp 6)) W) ?start8 ?_
 case start8 =>
  refine ⟨_, 0, rfl, hr, Same.rfl, e_w, (by first | assumption | omega), ?_, ?_, ?_⟩
  · first | exact (later e_w5 s4) | exact Is.int (later e_w5 s4) (by first | omega | simp) | exact Is.bool (later e_w5 s4) (by first | omega | simp)
  · exact (later e_w5 s5)
  · first | exact s6 | exact Is.int s6 (by first | omega | simp) | exact Is.bool s6 (by first | omega | simp)
 intro n8 a8 w8 hI
 clear e_w
 clear e_w5
 clear hr; obtain ⟨i, hn8, hr, hs, e_w, hi, u4, u5, u6⟩ := hI
 revert s1; revert s0; refine kp2 hs rfl ?_; intro s0 s1
 clear s4 s5 s6
 have s4 := u4; clear u4
 have s5 := u5; clear u5
 have s6 := u6; clear u6
 have m8 := hs; clear hs
 refine wp_seq ?_
 refine wp_seq ?_
 refine wp_reg 22 [[(6, none)], [(8, some 0)]] [?b9_0, ?b9_1] mixed hr ?t9 ?o9 ?_
 case o9 =>
  refine oc0 (fun A W hx hf => ?_) ?_
  exact ok_movE (a0 := a8) (r0 hf)
  refine oc0 (fun A W hx hf => ?_) ?_
  exact ok_lss (p1 s6 hx (q0 ?b9_0 A W 8 hf)) (ec A (.int .i64 16))
  exact OpsOk.nil
 case t9 => exact inferInstance
 clear hr; intro a10 w10 x hr hd hs
 revert s6; revert s5; revert s4; revert s1; revert s0; refine kp5 hs rfl ?_; intro s0 s1 s4 s5 s6
 have s9 := fa ?b9_1 a10 w10 9 (hd 1 9 rfl)
 replace e_w := e_w.trans x
 have e_w8 := x
 replace m8 := m8.tr hs rfl
 clear hd hs x
 refine exit_then ?_
 refine wp_cond_split (show _ = _ from s9) (fun hlt => ?_) (fun hlt => ?_)
 ·
  have hlt : i < 16 := by simp at hlt; omega
  refine wp_skip ?_
  refine exit_then ?_
  refine wp_seq ?_
  refine wp_block ?_
  refine wp_reg_pre (l := [_, _, _, _, _, _, _, _, _]) (rest := [_]) 22 [[(6, none)], [(0, none)], [(1, none)], [(6, none)], [(14, some 2), (15, some 3)], [(13, some 1), (16, some 4)], [(17, some 5)], [(5, none)], [(19, some 7), (12, some 0)]] [?b12_0, ?b12_1, ?b12_2, ?b12_3, ?b12_4, ?b12_5, ?b12_6, ?b12_7, ?b12_8] hr ?t12 ?o12 ?_
  case o12 =>
   refine oc0 (fun A W hx hf => ?_) ?_
   exact ok_movE (a0 := a10) (r0 hf)
   refine oc0 (fun A W hx hf => ?_) ?_
   exact ok_movE (a0 := a10) (r0 hf)
   refine oc0 (fun A W hx hf => ?_) ?_
   exact ok_movE (a0 := a10) (r0 hf)
   refine oc0 (fun A W hx hf => ?_) ?_
   exact ok_movE (a0 := a10) (r0 hf)
   refine oc0 (fun A W hx hf => ?_) ?_
   exact ok_addI (p2 s1 e_w hx (q0 ?b12_2 A W 14 hf)) (p2 s6 e_w8 hx (q1 ?b12_3 A W 15 hf)) (by omega)
   refine oc0 (fun A W hx hf => ?_) ?_
   exact ok_index_bs (q + i) Try.underlying22 size5 (p2 s0 e_w hx (q0 ?b12_1 A W 13 hf)) (Is.int (q1 ?b12_4 A W 16 hf) (by omega)) (by first | omega | decide | (simp; done) | (simp; omega))
   refine oc0 (fun A W hx hf => ?_) ?_
   exact ok_loadp Try.underlying5 rfl (q0 ?b12_5 A W 17 hf)
   refine oc0 (fun A W hx hf => ?_) ?_
   exact ok_fieldS 1 Try.underlying25 (k := 1) rfl size23 rfl (o2 s5 e_w8 hx (r0 hf)) rfl
   refine oc0 (fun A W hx hf => ?_) ?_
   exact ok_indexS (_) Try.underlying23 size5 (q0 ?b12_7 A W 19 hf) (p2 s6 e_w8 hx (q1 ?b12_0 A W 12 hf)) rfl (by first | omega | decide | (simp; done) | (simp; omega))
   exact OpsOk.nil
  case t12 => exact inferInstance
  clear hr; intro a13 w13 x hr hd hs
  revert s6; revert s5; revert s4; revert s1; revert s0; refine kp5 hs rfl ?_; intro s0 s1 s4 s5 s6
  clear s9
  have s18 := fa ?b12_6 a13 w13 18 (hd 6 18 rfl)
  have s20 := fa ?b12_8 a13 w13 20 (hd 8 20 rfl)
  replace e_w := e_w.trans x
  replace e_w8 := e_w8.trans x
  replace m8 := m8.tr hs rfl
  clear hd hs x
  have z14 := PxE.lt s20
  have l14 := (show (g4_5 = 0 ∨ w.heap.size < g4_5) ∧ True from ⟨by omega, trivial⟩)
  have l14_4 := PxS.lt (later e_w8 s4)
  refine wl_storeE hr size5 s20 rfl s18 ?_; clear hr; intro a14 w14 hc hu hr hs
  have hb : Below w.heap.size w13 w14 := hc.below e_w.size l14.1
  revert s6; revert s5; revert s4; revert s1; revert s0; refine kp5 hs rfl ?_; intro s0 s1 s4 s5 s6
  clear s18 s20
  replace s4 := PxS.other (later e_w8 s4) hc (by omega)
  replace s5 := hu _ _ _ (later e_w8 s5)
  try simp only [List.set_cons_zero, List.set_cons_succ] at s5
  replace e_w := e_w.below (Nat.le_refl _) hb
  clear e_w8
  replace s6 := anyw (w2 := w14) s6
  replace m8 := m8.tr hs rfl
  clear hu hs hc hb
  refine wpList_nil ?_
  refine blk_normal ?_
  refine exit_then ?_
  refine wp_reg 22 [[(6, none)], [(10, some 0)], [(11, some 1)]] [?b15_0, ?b15_1, ?b15_1] mixed hr ?t15 ?o15 ?_
  case o15 =>
   refine oc0 (fun A W hx hf => ?_) ?_
   exact ok_movE (a0 := a14) (r0 hf)
   refine oc0 (fun A W hx hf => ?_) ?_
   exact ok_addI (p1 s6 hx (q0 ?b15_0 A W 10 hf)) (ec A (.int .i64 1)) (by omega)
   refine oc0 (fun A W hx hf => ?_) ?_
   exact ok_assign (q0 ?b15_1 A W 11 hf)
   exact OpsOk.nil
  case t15 => exact inferInstance
  clear hr; intro a16 w16 x hr hd hs
  revert s5; revert s4; revert s1; revert s0; refine kp4 hs rfl ?_; intro s0 s1 s4 s5
  clear s6
  have s6 := fa ?b15_1 a16 w16 6 (hd 2 6 rfl)
  replace e_w := e_w.trans x
  have e_w14 := x
  replace m8 := m8.tr hs rfl
  clear hd hs x
  refine exit_then ?_
  refine ⟨(fun (i : Nat) => 16 - i) (i + 1), ?_, ?_⟩
  · (try dsimp only); omega
  refine ⟨i + 1, rfl, hr, m8, e_w, (by first | assumption | omega), ?_, ?_, ?_⟩
  · first | exact (later e_w14 s4) | exact Is.int (later e_w14 s4) (by first | omega | simp) | exact Is.bool (later e_w14 s4) (by first | omega | simp)
  · exact PxS.cast (later e_w14 s5) (by rw [adr6p_step (by omega) (by omega)])
  · first | exact s6 | exact Is.int s6 (by first | omega | simp) | exact Is.bool s6 (by first | omega | simp)
 ·
  have hlt : i = 16 := by simp at hlt; omega
  subst hlt
  refine wp_exit ?_
  refine then_exit ?_
  refine then_exit ?_
  refine blk_exit ?_
  refine exit_then ?_
  refine wp_seq ?_
  refine wp_reg_pre (l := [_]) (rest := [_]) 22 [[(5, none)]] [?b17_0] hr ?t17 ?o17 ?_
  case o17 =>
   refine oc0 (fun A W hx hf => ?_) ?_
   exact ok_loadAggS 2 Try.underlying25 rfl size25 (o2 s5 e_w8 hx (r0 hf)) rfl
   exact OpsOk.nil
  case t17 => exact inferInstance
  clear hr; intro a18 w18 x hr hd hs
  revert s4; refine kp1 hs rfl ?_; intro s4
  clear s0 s1 s5 s6 s9
  have s21 := fa ?b17_0 a18 w18 21 (hd 0 21 rfl)
  replace e_w := e_w.trans x
  replace e_w8 := e_w8.trans x
  clear hd hs x
  have z19 := PxS.lt (later e_w8 s4)
  have l19 := (show (g2_4 = 0 ∨ w.heap.size < g2_4) ∧ True from ⟨by omega, trivial⟩)
  refine wl_storeSn hr size25 (later e_w8 s4) s21 (by simp [adr6p]; omega) (by intro u hu; simp at hu; rcases hu with rfl | ⟨c, _, rfl⟩ <;> rfl) rfl ?_; clear hr; intro a19 w19 hc hu hr hs
  have hb : Below w.heap.size w18 w19 := hc.below e_w.size l19.1
  revert s4; refine kp1 hs rfl ?_; intro s4
  clear s21
  replace s4 := hu _ _ _ (later e_w8 s4)
  try simp only [List.set_cons_zero, List.set_cons_succ] at s4
  replace e_w := e_w.below (Nat.le_refl _) hb
  clear e_w8
  clear hu hs hc hb
  refine wpList_nil ?_
  refine exit_then ?_
  refine wp_ret ?_
  refine ret_cell Try.results52 hr Try.underlying25 rfl size25 s4 e_w ?_
  exact (show Value.agg _ = _ from by rw [adr6p_end]; simp [AdrV, adrCells, adr6])

end Go.Proofs.Ytnlmppannjebfaa
