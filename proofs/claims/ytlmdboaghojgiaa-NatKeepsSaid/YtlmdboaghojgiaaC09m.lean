import Derived.Test.YtlmdboaghojgiaaC09
namespace Go.Proofs.Ytlmdboaghojgiaa
open Go.RowKit
set_option linter.unusedVariables false
set_option linter.unusedSimpArgs false
set_option maxRecDepth 4000
theorem Qn4 {x0 : Value} {w : World} {p : Int} (h0 : (Is (.int .i64 p)) x0 w)  :
    Calls Try.prog 53 #[x0] w (Ret (Is (.bool (extB p))) w) := by
 refine enter Try.func53 rfl Try.ntmps53 (k := 1) rfl (by decide) (fun a0 hr hargs => ?_)
 have s0 := sarg h0 (hargs 0 (by decide))
 clear hargs
 refine sq ?_
 refine Q04 21 [[]] [?b1_0] Q07 hr ?t1 ?o1 ?_
 case o1 =>
  apply oc0; intro A W hx hf
  exact Q06
  exact onn
 case t1 => exact inferInstance
 clear hr; intro a2 w2 x hr hd hs
 revert s0; refine kp1 hs rfl ?_; intro s0
 have e_w := x; clear hd hs x
 refine es ?_
 refine Q04 21 [[(0, none)], [(3, some 0)], [(4, some 1)], [(0, none), (5, some 2)], [(6, some 3), (5, some 2)], [(5, some 2), (7, some 4)], [(8, some 5)], [(0, none), (9, some 6)], [(10, some 7), (9, some 6)], [(9, some 6), (11, some 8)], [(12, some 9)], [(0, none), (13, some 10)], [(14, some 11), (13, some 10)], [(13, some 10), (15, some 12)], [(16, some 13)], [(0, none), (17, some 14)], [(18, some 15), (17, some 14)], [(17, some 14), (19, some 16)], [(20, some 17)]] [?b3_0, ?b3_1, ?b3_1, ?b3_3, ?b3_4, ?b3_5, ?b3_5, ?b3_7, ?b3_8, ?b3_9, ?b3_9, ?b3_11, ?b3_12, ?b3_13, ?b3_13, ?b3_15, ?b3_16, ?b3_17, ?b3_17] Q07 hr ?t3 ?o3 ?_
 case o3 =>
  apply oc0; intro A W hx hf
  exact Q01 (a0 := a2) (r0 hf)
  apply oc0; intro A W hx hf
  exact Q1f (p2 s0 e_w hx (q0 ?b3_0 A W 3 hf)) (ec A (.int .i64 0))
  apply oc0; intro A W hx hf
  exact Q0p (q0 ?b3_1 A W 4 hf)
  refine ocg 5 ?_ (fun A W hx hf => ?_) ?_
  rfl
  exact gd_f (q1 ?b3_1 A W 5 hf) (fun hc => Q01 (a0 := a2) (r0 hf))
  refine ocg 5 ?_ (fun A W hx hf => ?_) ?_
  rfl
  exact gd_f (q1 ?b3_1 A W 5 hf) (fun hc => Q1f (p2 s0 e_w hx (G.get (q0 ?b3_3 A W 6 hf) hc)) (ec A (.int .i64 43)))
  apply oc0; intro A W hx hf
  exact Q4k (q0 ?b3_1 A W 5 hf) (q1 ?b3_4 A W 7 hf)
  apply oc0; intro A W hx hf
  exact Q0p (q0 ?b3_5 A W 8 hf)
  refine ocg 9 ?_ (fun A W hx hf => ?_) ?_
  rfl
  exact gd_f (q1 ?b3_5 A W 9 hf) (fun hc => Q01 (a0 := a2) (r0 hf))
  refine ocg 9 ?_ (fun A W hx hf => ?_) ?_
  rfl
  exact gd_f (q1 ?b3_5 A W 9 hf) (fun hc => Q1f (p2 s0 e_w hx (G.get (q0 ?b3_7 A W 10 hf) hc)) (ec A (.int .i64 60)))
  apply oc0; intro A W hx hf
  exact Q4k (q0 ?b3_5 A W 9 hf) (q1 ?b3_8 A W 11 hf)
  apply oc0; intro A W hx hf
  exact Q0p (q0 ?b3_9 A W 12 hf)
  refine ocg 13 ?_ (fun A W hx hf => ?_) ?_
  rfl
  exact gd_f (q1 ?b3_9 A W 13 hf) (fun hc => Q01 (a0 := a2) (r0 hf))
  refine ocg 13 ?_ (fun A W hx hf => ?_) ?_
  rfl
  exact gd_f (q1 ?b3_9 A W 13 hf) (fun hc => Q1f (p2 s0 e_w hx (G.get (q0 ?b3_11 A W 14 hf) hc)) (ec A (.int .i64 51)))
  apply oc0; intro A W hx hf
  exact Q4k (q0 ?b3_9 A W 13 hf) (q1 ?b3_12 A W 15 hf)
  apply oc0; intro A W hx hf
  exact Q0p (q0 ?b3_13 A W 16 hf)
  refine ocg 17 ?_ (fun A W hx hf => ?_) ?_
  rfl
  exact gd_f (q1 ?b3_13 A W 17 hf) (fun hc => Q01 (a0 := a2) (r0 hf))
  refine ocg 17 ?_ (fun A W hx hf => ?_) ?_
  rfl
  exact gd_f (q1 ?b3_13 A W 17 hf) (fun hc => Q1f (p2 s0 e_w hx (G.get (q0 ?b3_15 A W 18 hf) hc)) (ec A (.int .i64 44)))
  apply oc0; intro A W hx hf
  exact Q4k (q0 ?b3_13 A W 17 hf) (q1 ?b3_16 A W 19 hf)
  apply oc0; intro A W hx hf
  exact Q03 (q0 ?b3_17 A W 20 hf)
  exact onn
 case t3 => exact inferInstance
 clear hr; intro a4 w4 x hr hd hs
 clear s0
 have s2 := fa ?b3_17 a4 w4 2 (hd 18 2 rfl)
 replace e_w := e_w.trans x; clear hd hs x
 refine et ?_
 refine wp_ret ?_
 refine Q14 Try.results53 hr e_w ?_
 exact Is.bool s2 rfl

theorem Qkx {x0 x1 x2 : Value} {w : World} {p z : Int} {l : List UInt8} (h0 : (Is (.int .i64 p)) x0 w) (h1 : (Bs l) x1 w) (h2 : (Is (.int .i64 z)) x2 w) (he : extB p = true) (hz0 : 0 ≤ z) (hz1 : z.toNat + 1 < l.length) :
    Calls Try.prog 54 #[x0, x1, x2] w (Ret (Is (.int .i64 (Q2c p (Q08 l (z.toNat + 1))))) w) := by
 have hlen := Bs.len_le h1
 obtain ⟨q, rfl⟩ : ∃ q : Nat, z = (q : Int) := ⟨z.toNat, by omega⟩
 simp only [Int.toNat_natCast] at hz1 ⊢
 have e1 : (l[q + 1]'(by omega)).toNat = Q08 l (q + 1) := (Q0o (by omega)).symm
 have b1 := Q17 l (q + 1)
 refine enter Try.func54 rfl Try.ntmps54 (k := 3) rfl (by decide) (fun a0 hr hargs => ?_)
 have s0 := sarg h0 (hargs 0 (by decide))
 have s1 := sarg h1 (hargs 1 (by decide))
 have s2 := sarg h2 (hargs 2 (by decide))
 clear hargs
 refine sq ?_
 refine Q04 27 [[]] [?b1_0] Q07 hr ?t1 ?o1 ?_
 case o1 =>
  apply oc0; intro A W hx hf
  exact Q06
  exact onn
 case t1 => exact inferInstance
 clear hr; intro a2 w2 x hr hd hs
 revert s2; revert s1; revert s0; refine kp3 hs rfl ?_; intro s0 s1 s2
 have e_w := x; clear hd hs x
 refine es ?_
 refine sq ?_
 refine Q04 27 [[(0, none)], [(7, some 0)]] [?b3_0, ?b3_1] Q07 hr ?t3 ?o3 ?_
 case o3 =>
  apply oc0; intro A W hx hf
  exact Q01 (a0 := a2) (r0 hf)
  apply oc0; intro A W hx hf
  exact Q1f (p2 s0 e_w hx (q0 ?b3_0 A W 7 hf)) (ec A (.int .i64 44))
  exact onn
 case t3 => exact inferInstance
 clear hr; intro a4 w4 x hr hd hs
 revert s2; revert s1; revert s0; refine kp3 hs rfl ?_; intro s0 s1 s2
 have s8 := fa ?b3_1 a4 w4 8 (hd 1 8 rfl)
 replace e_w := e_w.trans x; clear hd hs x
 refine et ?_
 refine wp_cond_split (show _ = _ from s8) (fun h44 => ?_) (fun h44 => ?_)
 ·
  have h44 : p = 44 := by simpa using h44
  refine sq ?_
  refine Q04 27 [[]] [?b6_0] Q07 hr ?t6 ?o6 ?_
  case o6 =>
   apply oc0; intro A W hx hf
   exact Q06
   exact onn
  case t6 => exact inferInstance
  clear hr; intro a7 w7 x hr hd hs
  clear s0 s1 s2 s8
  have s6 := fa ?b6_0 a7 w7 6 (hd 0 6 rfl)
  replace e_w := e_w.trans x; clear hd hs x
  refine et ?_
  refine wp_ret ?_
  refine Q0d ?_
  refine Q14 Try.results54 hr e_w ?_
  first | exact Is.int s6 (Qe2 h44).symm | exact Is.int s6 (by rw [Qe3 h51]; omega) | exact Is.int s6 (by rw [Qj7 he h51 h44]; omega)
 have h44 : p ≠ 44 := by simpa using h44
 refine wp_skip ?_
 refine es ?_
 refine sq ?_
 refine Q04 27 [[(0, none)], [(9, some 0)]] [?b8_0, ?b8_1] Q07 hr ?t8 ?o8 ?_
 case o8 =>
  apply oc0; intro A W hx hf
  exact Q01 (a0 := a4) (r0 hf)
  apply oc0; intro A W hx hf
  exact Q1f (p2 s0 e_w hx (q0 ?b8_0 A W 9 hf)) (ec A (.int .i64 51))
  exact onn
 case t8 => exact inferInstance
 clear hr; intro a9 w9 x hr hd hs
 revert s2; revert s1; refine kp2 hs rfl ?_; intro s1 s2
 clear s0 s8
 have s10 := fa ?b8_1 a9 w9 10 (hd 1 10 rfl)
 replace e_w := e_w.trans x; clear hd hs x
 refine et ?_
 refine wp_cond_split (show _ = _ from s10) (fun h51 => ?_) (fun h51 => ?_)
 ·
  have h51 : p = 51 := by simpa using h51
  refine sq ?_
  refine Q04 27 [[(1, none)], [(2, none)], [(12, some 1)], [(11, some 0), (13, some 2)], [(14, some 3)], [(15, some 4)], [(16, some 5)], [(17, some 6)], [(18, some 7)]] [?b11_0, ?b11_1, ?b11_2, ?b11_3, ?b11_4, ?b11_5, ?b11_6, ?b11_7, ?b11_7] Q07 hr ?t11 ?o11 ?_
  case o11 =>
   apply oc0; intro A W hx hf
   exact Q01 (a0 := a9) (r0 hf)
   apply oc0; intro A W hx hf
   exact Q01 (a0 := a9) (r0 hf)
   apply oc0; intro A W hx hf
   exact Q0h (p2 s2 e_w hx (q0 ?b11_1 A W 12 hf)) (ec A (.int .i64 1)) (by omega)
   apply oc0; intro A W hx hf
   exact Q0e (q + 1) tu22 Q0i (p2 s1 e_w hx (q0 ?b11_0 A W 11 hf)) (Is.int (q1 ?b11_2 A W 13 hf) (by omega)) (by omega)
   apply oc0; intro A W hx hf
   exact Q0q tu5 rfl (q0 ?b11_3 A W 14 hf)
   apply oc0; intro A W hx hf
   exact Q1c tu5 tu3 (by decide) (q0 ?b11_4 A W 15 hf)
   apply oc0; intro A W hx hf
   exact Q2p (ec A (.int .i64 4)) (q0 ?b11_5 A W 16 hf) (by omega)
   apply oc0; intro A W hx hf
   exact Q0h (ec A (.int .i64 8)) (q0 ?b11_6 A W 17 hf) (by omega)
   apply oc0; intro A W hx hf
   exact Q03 (q0 ?b11_7 A W 18 hf)
   exact onn
  case t11 => exact inferInstance
  clear hr; intro a12 w12 x hr hd hs
  clear s1 s2 s10
  have s6 := fa ?b11_7 a12 w12 6 (hd 8 6 rfl)
  replace e_w := e_w.trans x; clear hd hs x
  refine et ?_
  refine wp_ret ?_
  refine Q0d ?_
  refine Q14 Try.results54 hr e_w ?_
  first | exact Is.int s6 (Qe2 h44).symm | exact Is.int s6 (by rw [Qe3 h51]; omega) | exact Is.int s6 (by rw [Qj7 he h51 h44]; omega)
 have h51 : p ≠ 51 := by simpa using h51
 refine wp_skip ?_
 refine es ?_
 refine Q04 27 [[(1, none)], [(2, none)], [(20, some 1)], [(19, some 0), (21, some 2)], [(22, some 3)], [(23, some 4)], [(24, some 5)], [(25, some 6)], [(26, some 7)]] [?b13_0, ?b13_1, ?b13_2, ?b13_3, ?b13_4, ?b13_5, ?b13_6, ?b13_7, ?b13_7] Q07 hr ?t13 ?o13 ?_
 case o13 =>
  apply oc0; intro A W hx hf
  exact Q01 (a0 := a9) (r0 hf)
  apply oc0; intro A W hx hf
  exact Q01 (a0 := a9) (r0 hf)
  apply oc0; intro A W hx hf
  exact Q0h (p2 s2 e_w hx (q0 ?b13_1 A W 20 hf)) (ec A (.int .i64 1)) (by omega)
  apply oc0; intro A W hx hf
  exact Q0e (q + 1) tu22 Q0i (p2 s1 e_w hx (q0 ?b13_0 A W 19 hf)) (Is.int (q1 ?b13_2 A W 21 hf) (by omega)) (by omega)
  apply oc0; intro A W hx hf
  exact Q0q tu5 rfl (q0 ?b13_3 A W 22 hf)
  apply oc0; intro A W hx hf
  exact Q1c tu5 tu3 (by decide) (q0 ?b13_4 A W 23 hf)
  apply oc0; intro A W hx hf
  exact Q2p (ec A (.int .i64 8)) (q0 ?b13_5 A W 24 hf) (by omega)
  apply oc0; intro A W hx hf
  exact Q0h (ec A (.int .i64 8)) (q0 ?b13_6 A W 25 hf) (by omega)
  apply oc0; intro A W hx hf
  exact Q03 (q0 ?b13_7 A W 26 hf)
  exact onn
 case t13 => exact inferInstance
 clear hr; intro a14 w14 x hr hd hs
 clear s1 s2 s10
 have s6 := fa ?b13_7 a14 w14 6 (hd 8 6 rfl)
 replace e_w := e_w.trans x; clear hd hs x
 refine et ?_
 refine wp_ret ?_
 refine Q14 Try.results54 hr e_w ?_
 first | exact Is.int s6 (Qe2 h44).symm | exact Is.int s6 (by rw [Qe3 h51]; omega) | exact Is.int s6 (by rw [Qj7 he h51 h44]; omega)

def Qd5 : List Tmp := [6, 8, 9, 10, 11, 12, 13, 14, 15, 16, 17, 18, 19, 20]
theorem Qfr {x0 x1 : Value} {w : World} {l : List UInt8} {z : Int} (h0 : (Bs l) x0 w) (h1 : (Is (.int .i64 z)) x1 w) (hz0 : 0 ≤ z) (hz1 : z.toNat + 16 ≤ l.length) :
    Calls Try.prog 52 #[x0, x1] w (Ret (Is (AdrV (adr6 l z.toNat))) w) := by
 have hlen := Bs.len_le h0
 obtain ⟨q, rfl⟩ : ∃ q : Nat, z = (q : Int) := ⟨z.toNat, by omega⟩
 simp only [Int.toNat_natCast] at hz1 ⊢
 refine enter Try.func52 rfl Try.ntmps52 (k := 2) rfl (by decide) (fun a0 hr hargs => ?_)
 have s0 := sarg h0 (hargs 0 (by decide))
 have s1 := sarg h1 (hargs 1 (by decide))
 clear hargs
 refine sq ?_
 refine Q04 22 [[]] [?b1_0] Q07 hr ?t1 ?o1 ?_
 case o1 =>
  apply oc0; intro A W hx hf
  exact Q0v [Q0l adr0] [17] Q80 (by rfl) (by rfl) hx.size
  exact onn
 case t1 => exact inferInstance
 clear hr; intro a2 w2 x hr hd hs
 revert s1; revert s0; refine kp2 hs rfl ?_; intro s0 s1
 have s4 := fa ?b1_0 a2 w2 4 (hd 0 4 rfl)
 obtain ⟨g2_4, q2_4⟩ := PxN.at s4; clear s4; have n2_4 := PxS.lt q2_4
 have s4 := q2_4; clear q2_4
 have e_w := x; clear hd hs x
 refine es ?_
 refine Q05 (l := [_, _]) (rest := [_]) 22 [[], []] [?b3_0, ?b3_1] hr ?t3 ?o3 ?_
 case o3 =>
  apply oc0; intro A W hx hf
  exact Q15 [(0, (.const (.bool true)))] [(0, _)] Qfy rfl (PartsC.one (ec A (.bool true)) rfl (PartsC.nil)) (by first | rfl | simp [Q0l, *])
  apply oc0; intro A W hx hf
  exact Q0v [[.bool false], (List.replicate 16 0).map Q0z] [1, 16] Q80 (by rfl) (by rfl) hx.size
  exact onn
 case t3 => exact inferInstance
 clear hr; intro a4 w4 x hr hd hs
 have z_w_w2 := e_w.size
 have l4_4 := PxS.lt s4
 revert s4; revert s1; revert s0; refine kp3 hs rfl ?_; intro s0 s1 s4
 have s7 := fa ?b3_0 a4 w4 7 (hd 0 7 rfl)
 have s5 := fa ?b3_1 a4 w4 5 (hd 1 5 rfl)
 obtain ⟨g4_5, q4_5⟩ := PxN.at s5; clear s5; have n4_5 := PxS.lt q4_5
 replace q4_5 := PxS.mono q4_5 e_w.size
 have s5 := q4_5; clear q4_5
 replace e_w := e_w.trans x
 have e_w2 := x; clear hd hs x
 have z5 := PxS.lt s5
 have l5 := (show (g4_5 = 0 ∨ w.heap.size < g4_5) ∧ True from ⟨by omega, trivial⟩)
 have l5_4 := PxS.lt (Q00 e_w2 s4)
 refine Q19 [[.bool true], (List.replicate 16 0).map Q0z] hr Q16 s5 s7 (by rfl) (by intro u hu; simp at hu; rcases hu with rfl | rfl <;> rfl) rfl ?_; clear hr; intro a5 w5 hc hu hr hs
 have hb : Below w.heap.size w4 w5 := hc.below e_w.size l5.1
 revert s5; revert s4; revert s1; revert s0; refine kp4 hs rfl ?_; intro s0 s1 s4 s5
 clear s7
 replace s4 := PxS.other (Q00 e_w2 s4) hc (by omega)
 replace s5 := hu _ _ _ s5
 try simp only [List.set_cons_zero, List.set_cons_succ] at s5
 replace e_w := e_w.below (Nat.le_refl _) hb
 clear e_w2
 clear hu hs hc hb
 refine wpList_nil ?_
 refine es ?_
 refine sq ?_
 refine Q04 22 [[]] [?b6_0] Q07 hr ?t6 ?o6 ?_
 case o6 =>
  apply oc0; intro A W hx hf
  exact Q06
  exact onn
 case t6 => exact inferInstance
 clear hr; intro a7 w7 x hr hd hs
 revert s5; revert s4; revert s1; revert s0; refine kp4 hs rfl ?_; intro s0 s1 s4 s5
 have s6 := fa ?b6_0 a7 w7 6 (hd 0 6 rfl)
 replace e_w := e_w.trans x
 have e_w5 := x; clear hd hs x
 refine et ?_
 refine wp_block ?_
 refine Q11 (fun n A W => ∃ (i : Nat), n = 16 - i ∧ Fr 22 A ∧ Same Qd5 a7 A ∧ Ext w W ∧ (i ≤ 16) ∧ (PxS g2_4 w.heap.size [17] [Q0l adr0] 0) (A.eval (.tmp 4)) W ∧ (PxS g4_5 w.heap.size [1, 16] [[.bool true], (Qe0 l q i).map Q0z] 0) (A.eval (.tmp 5)) W ∧ (Is (.int .i64 (i : Int))) (A.eval (.tmp 6)) W) ?start8 ?_
 case start8 =>
  refine ⟨_, 0, rfl, hr, Same.rfl, e_w, (by first | assumption | omega), ?_, ?_, ?_⟩
  · first | exact (Q00 e_w5 s4) | exact Is.int (Q00 e_w5 s4) (by first | omega | simp) | exact Is.bool (Q00 e_w5 s4) (by first | omega | simp)
  · exact (Q00 e_w5 s5)
  · first | exact s6 | exact Is.int s6 (by first | omega | simp) | exact Is.bool s6 (by first | omega | simp)
 intro n8 a8 w8 hI
 clear e_w
 clear e_w5
 clear hr; obtain ⟨i, hn8, hr, hs, e_w, hi, u4, u5, u6⟩ := hI
 revert s1; revert s0; refine kp2 hs rfl ?_; intro s0 s1
 clear s4 s5 s6
 have s4 := u4; clear u4
 have s5 := u5; clear u5
 have s6 := u6; clear u6
 have m8 := hs; clear hs
 refine sq ?_
 refine sq ?_
 refine Q04 22 [[(6, none)], [(8, some 0)]] [?b9_0, ?b9_1] Q07 hr ?t9 ?o9 ?_
 case o9 =>
  apply oc0; intro A W hx hf
  exact Q01 (a0 := a8) (r0 hf)
  apply oc0; intro A W hx hf
  exact Q1e (p1 s6 hx (q0 ?b9_0 A W 8 hf)) (ec A (.int .i64 16))
  exact onn
 case t9 => exact inferInstance
 clear hr; intro a10 w10 x hr hd hs
 revert s6; revert s5; revert s4; revert s1; revert s0; refine kp5 hs rfl ?_; intro s0 s1 s4 s5 s6
 have s9 := fa ?b9_1 a10 w10 9 (hd 1 9 rfl)
 replace e_w := e_w.trans x
 have e_w8 := x
 replace m8 := m8.tr hs rfl; clear hd hs x
 refine et ?_
 refine wp_cond_split (show _ = _ from s9) (fun hlt => ?_) (fun hlt => ?_)
 ·
  have hlt : i < 16 := by simp at hlt; omega
  refine wp_skip ?_
  refine es ?_
  refine wp_block ?_
  refine Q05 (l := [_, _, _, _, _, _, _, _, _]) (rest := [_]) 22 [[(6, none)], [(0, none)], [(1, none)], [(6, none)], [(14, some 2), (15, some 3)], [(13, some 1), (16, some 4)], [(17, some 5)], [(5, none)], [(19, some 7), (12, some 0)]] [?b12_0, ?b12_1, ?b12_2, ?b12_3, ?b12_4, ?b12_5, ?b12_6, ?b12_7, ?b12_8] hr ?t12 ?o12 ?_
  case o12 =>
   apply oc0; intro A W hx hf
   exact Q01 (a0 := a10) (r0 hf)
   apply oc0; intro A W hx hf
   exact Q01 (a0 := a10) (r0 hf)
   apply oc0; intro A W hx hf
   exact Q01 (a0 := a10) (r0 hf)
   apply oc0; intro A W hx hf
   exact Q01 (a0 := a10) (r0 hf)
   apply oc0; intro A W hx hf
   exact Q0h (p2 s1 e_w hx (q0 ?b12_2 A W 14 hf)) (p2 s6 e_w8 hx (q1 ?b12_3 A W 15 hf)) (by omega)
   apply oc0; intro A W hx hf
   exact Q0e (q + i) tu22 Q0i (p2 s0 e_w hx (q0 ?b12_1 A W 13 hf)) (Is.int (q1 ?b12_4 A W 16 hf) (by omega)) (by first | omega | decide | (simp; done) | (simp; omega))
   apply oc0; intro A W hx hf
   exact Q0q tu5 rfl (q0 ?b12_5 A W 17 hf)
   apply oc0; intro A W hx hf
   exact Q02 1 tu25 (k := 1) rfl Q4a rfl (o2 s5 e_w8 hx (r0 hf)) rfl
   apply oc0; intro A W hx hf
   exact Q2j (_) tu23 Q0i (q0 ?b12_7 A W 19 hf) (p2 s6 e_w8 hx (q1 ?b12_0 A W 12 hf)) rfl (by first | omega | decide | (simp; done) | (simp; omega))
   exact onn
  case t12 => exact inferInstance
  clear hr; intro a13 w13 x hr hd hs
  revert s6; revert s5; revert s4; revert s1; revert s0; refine kp5 hs rfl ?_; intro s0 s1 s4 s5 s6
  clear s9
  have s18 := fa ?b12_6 a13 w13 18 (hd 6 18 rfl)
  have s20 := fa ?b12_8 a13 w13 20 (hd 8 20 rfl)
  replace e_w := e_w.trans x
  replace e_w8 := e_w8.trans x
  replace m8 := m8.tr hs rfl; clear hd hs x
  have z14 := PxE.lt s20
  have l14 := (show (g4_5 = 0 ∨ w.heap.size < g4_5) ∧ True from ⟨by omega, trivial⟩)
  have l14_4 := PxS.lt (Q00 e_w8 s4)
  refine Q7i hr Q0i s20 rfl s18 ?_; clear hr; intro a14 w14 hc hu hr hs
  have hb : Below w.heap.size w13 w14 := hc.below e_w.size l14.1
  revert s6; revert s5; revert s4; revert s1; revert s0; refine kp5 hs rfl ?_; intro s0 s1 s4 s5 s6
  clear s18 s20
  replace s4 := PxS.other (Q00 e_w8 s4) hc (by omega)
  replace s5 := hu _ _ _ (Q00 e_w8 s5)
  try simp only [List.set_cons_zero, List.set_cons_succ] at s5
  replace e_w := e_w.below (Nat.le_refl _) hb
  clear e_w8
  replace s6 := anyw (w2 := w14) s6
  replace m8 := m8.tr hs rfl
  clear hu hs hc hb
  refine wpList_nil ?_
  refine Q0w ?_
  refine et ?_
  refine Q04 22 [[(6, none)], [(10, some 0)], [(11, some 1)]] [?b15_0, ?b15_1, ?b15_1] Q07 hr ?t15 ?o15 ?_
  case o15 =>
   apply oc0; intro A W hx hf
   exact Q01 (a0 := a14) (r0 hf)
   apply oc0; intro A W hx hf
   exact Q0h (p1 s6 hx (q0 ?b15_0 A W 10 hf)) (ec A (.int .i64 1)) (by omega)
   apply oc0; intro A W hx hf
   exact Q03 (q0 ?b15_1 A W 11 hf)
   exact onn
  case t15 => exact inferInstance
  clear hr; intro a16 w16 x hr hd hs
  revert s5; revert s4; revert s1; revert s0; refine kp4 hs rfl ?_; intro s0 s1 s4 s5
  clear s6
  have s6 := fa ?b15_1 a16 w16 6 (hd 2 6 rfl)
  replace e_w := e_w.trans x
  have e_w14 := x
  replace m8 := m8.tr hs rfl; clear hd hs x
  refine et ?_
  refine ⟨(fun (i : Nat) => 16 - i) (i + 1), ?_, ?_⟩
  · (try dsimp only); omega
  refine ⟨i + 1, rfl, hr, m8, e_w, (by first | assumption | omega), ?_, ?_, ?_⟩
  · first | exact (Q00 e_w14 s4) | exact Is.int (Q00 e_w14 s4) (by first | omega | simp) | exact Is.bool (Q00 e_w14 s4) (by first | omega | simp)
  · exact PxS.cast (Q00 e_w14 s5) (by rw [Qgj (by omega) (by omega)])
  · first | exact s6 | exact Is.int s6 (by first | omega | simp) | exact Is.bool s6 (by first | omega | simp)
 have hlt : i = 16 := by simp at hlt; omega
 subst hlt
 refine wp_exit ?_
 refine Q0g ?_
 refine Q0g ?_
 refine Q1b ?_
 refine es ?_
 refine Q05 (l := [_]) (rest := [_]) 22 [[(5, none)]] [?b17_0] hr ?t17 ?o17 ?_
 case o17 =>
  apply oc0; intro A W hx hf
  exact Q0j 2 tu25 rfl Q16 (o2 s5 e_w8 hx (r0 hf)) rfl
  exact onn
 case t17 => exact inferInstance
 clear hr; intro a18 w18 x hr hd hs
 revert s4; refine kp1 hs rfl ?_; intro s4
 clear s0 s1 s5 s6 s9
 have s21 := fa ?b17_0 a18 w18 21 (hd 0 21 rfl)
 replace e_w := e_w.trans x
 replace e_w8 := e_w8.trans x; clear hd hs x
 have z19 := PxS.lt (Q00 e_w8 s4)
 have l19 := (show (g2_4 = 0 ∨ w.heap.size < g2_4) ∧ True from ⟨by omega, trivial⟩)
 refine Q0b hr Q16 (Q00 e_w8 s4) s21 (by simp [Qe0]; omega) (by intro u hu; simp at hu; rcases hu with rfl | ⟨c, _, rfl⟩ <;> rfl) rfl ?_; clear hr; intro a19 w19 hc hu hr hs
 have hb : Below w.heap.size w18 w19 := hc.below e_w.size l19.1
 revert s4; refine kp1 hs rfl ?_; intro s4
 clear s21
 replace s4 := hu _ _ _ (Q00 e_w8 s4)
 try simp only [List.set_cons_zero, List.set_cons_succ] at s4
 replace e_w := e_w.below (Nat.le_refl _) hb
 clear e_w8
 clear hu hs hc hb
 refine wpList_nil ?_
 refine et ?_
 refine wp_ret ?_
 refine Q2l Try.results52 hr tu25 rfl Q16 s4 e_w ?_
 exact (show Value.agg _ = _ from by rw [Qj6]; simp [AdrV, Q0l, adr6])

def Qej : List Tmp := [4, 5, 23, 24, 25, 26, 27, 28, 29, 30, 31, 32, 33, 34]
def Qek : List Tmp := [4, 6, 35, 36, 37, 38, 39, 40, 41, 42, 43, 44, 45, 46]
theorem Qn5 {x0 : Value} {w : World} {H : SixL} {B : Nat} (h0 : (Is (SixV H)) x0 w) (hH : Qb9 H) (ht9 : 40 ≤ H.total ∧ H.total ≤ 65575) (hB : B ≤ w.heap.size) :
    Calls Try.prog 34 #[x0] w (Ret (OwnB B 5 (Qcq H)) w) := by
 have hs16 := hH.1
 have hd16 := hH.2
 refine enter Try.func34 rfl Try.ntmps34 (k := 1) rfl (by decide) (fun a0 hr hargs => ?_)
 have s0 := sarg h0 (hargs 0 (by decide))
 clear hargs
 refine sq ?_
 refine Q04 48 [[(0, none)], []] [?b1_0, ?b1_1] Q07 hr ?t1 ?o1 ?_
 case o1 =>
  apply oc0; intro A W hx hf
  exact Q2i (Q1h H) [1, 1, 1, 1, 1, 1, 1, 16, 1, 16] (Is.conv (o1 s0 hx (r0 hf)) (show _ = Value.agg (Q1h H).flatten.toArray from by rw [Q5v]; rfl)) (by exact Q5g hH) hx.size
  apply oc0; intro A W hx hf
  exact Q1j (OwnBA 0 w.heap.size 5 []) (fun _ => Q24)
  exact onn
 case t1 => exact inferInstance
 clear hr; intro a2 w2 x hr hd hs
 clear s0
 have s1 := fa ?b1_0 a2 w2 1 (hd 0 1 rfl)
 obtain ⟨g2_1, q2_1⟩ := PxN.at s1; clear s1; have n2_1 := PxS.lt q2_1
 have s1 := q2_1; clear q2_1
 have e_w := x; clear hd hs x
 refine es ?_
 refine Q04 48 [[(1, none)], [(7, some 0)], [(8, some 1)], [(9, some 2)]] [?b3_0, ?b3_1, ?b3_2, ?b3_2] Q07 hr ?t3 ?o3 ?_
 case o3 =>
  apply oc0; intro A W hx hf
  exact Q02 1 tu62 (k := 1) rfl Q0k rfl (o1 s1 hx (r0 hf)) rfl
  apply oc0; intro A W hx hf
  exact Q09 tu3 rfl (q0 ?b3_0 A W 7 hf) rfl
  apply oc0; intro A W hx hf
  exact Q55 (q0 ?b3_1 A W 8 hf) (ec A (.int .i64 40)) (by omega)
  apply oc0; intro A W hx hf
  exact Q03 (q0 ?b3_2 A W 9 hf)
  exact onn
 case t3 => exact inferInstance
 clear hr; intro a4 w4 x hr hd hs
 revert s1; refine kp1 hs rfl ?_; intro s1
 have s3 := fa ?b3_2 a4 w4 3 (hd 3 3 rfl)
 replace e_w := e_w.trans x
 have e_w2 := x; clear hd hs x
 refine es ?_
 refine Q04 48 [[(3, none)], [(10, some 0)], [(11, some 1)], [(3, none)], [(13, some 3)], [(14, some 4)], [(1, none)], [(16, some 6)], [(17, some 7)], [(1, none)], [(19, some 9)], [(20, some 10)], [(12, some 2), (15, some 5), (18, some 8), (21, some 11)], [(22, some 12)]] [?b5_0, ?b5_1, ?b5_2, ?b5_3, ?b5_4, ?b5_5, ?b5_6, ?b5_7, ?b5_8, ?b5_9, ?b5_10, ?b5_11, ?b5_12, ?b5_12] Q07 hr ?t5 ?o5 ?_
 case o5 =>
  apply oc0; intro A W hx hf
  exact Q01 (a0 := a4) (r0 hf)
  apply oc0; intro A W hx hf
  exact Q30 (by decide) (p1 s3 hx (q0 ?b5_0 A W 10 hf)) (ec A (.int .i64 256))
  apply oc0; intro A W hx hf
  exact Q18 tu3 tu5 (q0 ?b5_1 A W 11 hf)
  apply oc0; intro A W hx hf
  exact Q01 (a0 := a4) (r0 hf)
  apply oc0; intro A W hx hf
  exact Q31 (by decide) (p1 s3 hx (q0 ?b5_3 A W 13 hf)) (ec A (.int .i64 256))
  apply oc0; intro A W hx hf
  exact Q18 tu3 tu5 (q0 ?b5_4 A W 14 hf)
  apply oc0; intro A W hx hf
  exact Q02 5 tu62 (k := 5) rfl Q0k rfl (o2 s1 e_w2 hx (r0 hf)) rfl
  apply oc0; intro A W hx hf
  exact Q09 tu3 rfl (q0 ?b5_6 A W 16 hf) rfl
  apply oc0; intro A W hx hf
  exact Q18 tu3 tu5 (q0 ?b5_7 A W 17 hf)
  apply oc0; intro A W hx hf
  exact Q02 2 tu62 (k := 2) rfl Q0k rfl (o2 s1 e_w2 hx (r0 hf)) rfl
  apply oc0; intro A W hx hf
  exact Q09 tu3 rfl (q0 ?b5_9 A W 19 hf) rfl
  apply oc0; intro A W hx hf
  exact Q18 tu3 tu5 (q0 ?b5_10 A W 20 hf)
  apply oc0; intro A W hx hf
  exact Q2d [(.const (.int .u8 96)), (.const (.int .u8 0)), (.const (.int .u8 0)), (.const (.int .u8 0)), (.tmp 12), (.tmp 15), (.tmp 18), (.tmp 21)] [_, _, _, _, _, _, _, _] tu22 Q0i Q2v rfl rfl (by decide) hx.size (PartsOk.cons (show ByteIs 96 _ _ from rfl) (PartsOk.cons (show ByteIs 0 _ _ from rfl) (PartsOk.cons (show ByteIs 0 _ _ from rfl) (PartsOk.cons (show ByteIs 0 _ _ from rfl) (PartsOk.cons (q0 ?b5_2 A W 12 hf) (PartsOk.cons (q1 ?b5_5 A W 15 hf) (PartsOk.cons (q2 ?b5_8 A W 18 hf) (PartsOk.cons (q3 ?b5_11 A W 21 hf) (PartsOk.nil)))))))))
  apply oc0; intro A W hx hf
  exact Q03 (q0 ?b5_12 A W 22 hf)
  exact onn
 case t5 => exact inferInstance
 clear hr; intro a6 w6 x hr hd hs
 have z_w_w4 := e_w.size
 have z_w2_w4 := e_w2.size
 have l6_1 := PxS.lt (Q00 e_w2 s1)
 revert s1; refine kp1 hs rfl ?_; intro s1
 clear s3
 have s4 := fa ?b5_12 a6 w6 4 (hd 13 4 rfl)
 obtain ⟨g6_4, q6_4⟩ := OwnB.at s4; clear s4; have n6_4 := OwnBA.lt q6_4
 replace q6_4 := OwnBA.mono q6_4 e_w.size
 have s4 := q6_4; clear q6_4
 replace e_w := e_w.trans x
 replace e_w2 := e_w2.trans x; clear hd hs x
 replace s4 := OwnBA.cast s4 (show _ = [96, 0, 0, 0] ++ put2 (H.total - 40) ++ [b8 H.proto, b8 H.hop] from by rw [Q4b (n := H.total - 40) (by omega), Q4c (n := H.total - 40) (by omega), show ((2 : Int) ^ 8) = 256 from rfl]; rfl)
 refine es ?_
 refine sq ?_
 refine Q04 48 [[]] [?b7_0] Q07 hr ?t7 ?o7 ?_
 case o7 =>
  apply oc0; intro A W hx hf
  exact Q06
  exact onn
 case t7 => exact inferInstance
 clear hr; intro a8 w8 x hr hd hs
 revert s4; revert s1; refine kp2 hs rfl ?_; intro s1 s4
 have s5 := fa ?b7_0 a8 w8 5 (hd 0 5 rfl)
 replace e_w := e_w.trans x
 replace e_w2 := e_w2.trans x
 have e_w6 := x; clear hd hs x
 refine et ?_
 refine wp_block ?_
 refine Q11 (fun n A W => ∃ (i β : Nat), n = 16 - i ∧ Fr 48 A ∧ Same Qej a8 A ∧ Ext w W ∧ (i ≤ 16) ∧ (g2_1 ≠ β) ∧ (PxS g2_1 w.heap.size [1, 1, 1, 1, 1, 1, 1, 16, 1, 16] (Q1h H) 0) (A.eval (.tmp 1)) W ∧ (OwnBA β w.heap.size 5 ([96, 0, 0, 0] ++ put2 (H.total - 40) ++ [b8 H.proto, b8 H.hop] ++ H.src.b.take i)) (A.eval (.tmp 4)) W ∧ (Is (.int .i64 (i : Int))) (A.eval (.tmp 5)) W) ?start9 ?_
 case start9 =>
  refine ⟨_, 0, g6_4, rfl, hr, Same.rfl, e_w, (by first | assumption | omega), (by first | assumption | omega), ?_, ?_, ?_⟩
  · exact (Q00 e_w2 s1)
  · exact OwnBA.cast (Q00 e_w6 s4) (by simp)
  · first | exact s5 | exact Is.int s5 (by first | omega | simp) | exact Is.bool s5 (by first | omega | simp)
 intro n9 a9 w9 hI
 clear e_w
 clear e_w2
 clear e_w6
 clear hr; obtain ⟨i, β, hn9, hr, hs, e_w, hi, ne1, u1, u4, u5⟩ := hI
 clear s1 s4 s5
 have s1 := u1; clear u1
 have s4 := u4; clear u4
 have s5 := u5; clear u5
 have m9 := hs; clear hs
 refine sq ?_
 refine sq ?_
 refine Q04 48 [[(5, none)], [(23, some 0)]] [?b10_0, ?b10_1] Q07 hr ?t10 ?o10 ?_
 case o10 =>
  apply oc0; intro A W hx hf
  exact Q01 (a0 := a9) (r0 hf)
  apply oc0; intro A W hx hf
  exact Q1e (p1 s5 hx (q0 ?b10_0 A W 23 hf)) (ec A (.int .i64 16))
  exact onn
 case t10 => exact inferInstance
 clear hr; intro a11 w11 x hr hd hs
 revert s5; revert s4; revert s1; refine kp3 hs rfl ?_; intro s1 s4 s5
 have s24 := fa ?b10_1 a11 w11 24 (hd 1 24 rfl)
 replace e_w := e_w.trans x
 have e_w9 := x
 replace m9 := m9.tr hs rfl; clear hd hs x
 refine et ?_
 refine wp_cond_split (show _ = _ from s24) (fun hlt => ?_) (fun hlt => ?_)
 ·
  have hlt : i < 16 := by simp at hlt; omega
  refine wp_skip ?_
  refine es ?_
  refine wp_block ?_
  refine Q05 (l := [_, _, _, _, _, _, _]) (rest := [_, _]) 48 [[(4, none)], [(5, none)], [(1, none)], [(29, some 2)], [(30, some 3), (28, some 1)], [(31, some 4)], [(32, some 5)]] [?b13_0, ?b13_1, ?b13_2, ?b13_3, ?b13_4, ?b13_5, ?b13_6] hr ?t13 ?o13 ?_
  case o13 =>
   apply oc0; intro A W hx hf
   exact Q01 (a0 := a11) (r0 hf)
   apply oc0; intro A W hx hf
   exact Q01 (a0 := a11) (r0 hf)
   apply oc0; intro A W hx hf
   exact Q02 6 tu62 (k := 6) rfl Q16 rfl (o2 s1 e_w9 hx (r0 hf)) rfl
   apply oc0; intro A W hx hf
   exact Q02 7 tu25 (k := 1) rfl Q4a rfl (q0 ?b13_2 A W 29 hf) rfl
   apply oc0; intro A W hx hf
   exact Q2j (_) tu23 Q0i (q0 ?b13_3 A W 30 hf) (p2 s5 e_w9 hx (q1 ?b13_1 A W 28 hf)) rfl (by omega)
   apply oc0; intro A W hx hf
   exact Q4e tu5 rfl (q0 ?b13_4 A W 31 hf) rfl (by first | omega | (simp; omega) | (simp [*]; omega))
   apply oc0; intro A W hx hf
   exact Q1m [(.tmp 32)] [_] tu22 Q0i Q2v rfl rfl (by decide) (PartsOk.cons (q0 ?b13_5 A W 32 hf) (PartsOk.nil))
   exact onn
  case t13 => exact inferInstance
  clear hr; intro a14 w14 x hr hd hs
  have u27 := mv s4 (fa ?b13_0 a14 w14 27 (hd 0 27 rfl))
  revert s5; revert s4; revert s1; refine kp3 hs rfl ?_; intro s1 s4 s5
  clear s24
  have s27 := u27; clear u27
  have s33 := fa ?b13_6 a14 w14 33 (hd 6 33 rfl)
  replace e_w := e_w.trans x
  replace e_w9 := e_w9.trans x
  replace m9 := m9.tr hs rfl; clear hd hs x
  have l15 := OwnBA.lt (Q00 e_w9 s27)
  have l15_1 := PxS.lt (Q00 e_w9 s1)
  refine Q0s hr (by decide) tu22 Q2q rfl (Q00 e_w9 s27) s33 e_w.size (by first | (simp [Q13]; done) | (simp [Q13]; omega)) ?_; clear hr; intro g15 a15 w15 hg15 hc hr hd hs
  have hb := hc.below e_w.size l15.1
  revert s5; revert s1; refine kp2 hs rfl ?_; intro s1 s5
  clear s4 s27 s33
  replace s1 := PxS.other (Q00 e_w9 s1) hc (by omega)
  have s34 := hd
  replace e_w := e_w.below (Nat.le_refl _) hb
  clear e_w9
  replace s5 := anyw (w2 := w15) s5
  replace m9 := m9.tr hs rfl
  clear hd hs hb hc
  refine Q10 hr (Q03 s34) inferInstance ?_; clear hr; intro a16 w16 x hr hd hs
  revert s5; revert s1; refine kp2 hs rfl ?_; intro s1 s5
  clear s34
  have s4 := hd 4 rfl (by decide)
  replace e_w := e_w.trans x
  have e_w15 := x
  replace m9 := m9.tr hs rfl; clear hd hs x
  refine wpList_nil ?_
  refine Q0w ?_
  refine et ?_
  refine Q04 48 [[(5, none)], [(25, some 0)], [(26, some 1)]] [?b17_0, ?b17_1, ?b17_1] Q07 hr ?t17 ?o17 ?_
  case o17 =>
   apply oc0; intro A W hx hf
   exact Q01 (a0 := a16) (r0 hf)
   apply oc0; intro A W hx hf
   exact Q0h (p2 s5 e_w15 hx (q0 ?b17_0 A W 25 hf)) (ec A (.int .i64 1)) (by omega)
   apply oc0; intro A W hx hf
   exact Q03 (q0 ?b17_1 A W 26 hf)
   exact onn
  case t17 => exact inferInstance
  clear hr; intro a18 w18 x hr hd hs
  revert s4; revert s1; refine kp2 hs rfl ?_; intro s1 s4
  clear s5
  have s5 := fa ?b17_1 a18 w18 5 (hd 2 5 rfl)
  replace e_w := e_w.trans x
  replace e_w15 := e_w15.trans x
  have e_w16 := x
  replace m9 := m9.tr hs rfl; clear hd hs x
  refine et ?_
  refine ⟨(fun (i β : Nat) => 16 - i) (i + 1) (0), ?_, ?_⟩
  · (try dsimp only); omega
  refine ⟨i + 1, g15, rfl, hr, m9, e_w, (by first | assumption | omega), (by first | assumption | omega), ?_, ?_, ?_⟩
  · exact (Q00 e_w15 s1)
  · exact OwnBA.cast (Q00 e_w16 s4) (by rw [Q3i (l := H.src.b) (by omega), ← List.append_assoc])
  · first | exact s5 | exact Is.int s5 (by first | omega | simp) | exact Is.bool s5 (by first | omega | simp)
 have hlt : i = 16 := by simp at hlt; omega
 subst hlt
 refine wp_exit ?_
 refine Q0g ?_
 refine Q0g ?_
 refine Q1b ?_
 refine es ?_
 refine sq ?_
 refine Q04 48 [[]] [?b19_0] Q07 hr ?t19 ?o19 ?_
 case o19 =>
  apply oc0; intro A W hx hf
  exact Q06
  exact onn
 case t19 => exact inferInstance
 clear hr; intro a20 w20 x hr hd hs
 revert s4; revert s1; refine kp2 hs rfl ?_; intro s1 s4
 clear s5 s24
 have s6 := fa ?b19_0 a20 w20 6 (hd 0 6 rfl)
 replace e_w := e_w.trans x
 replace e_w9 := e_w9.trans x; clear hd hs x
 refine et ?_
 refine wp_block ?_
 refine Q11 (fun n A W => ∃ (j β : Nat), n = 16 - j ∧ Fr 48 A ∧ Same Qek a20 A ∧ Ext w W ∧ (j ≤ 16) ∧ (g2_1 ≠ β) ∧ (PxS g2_1 w.heap.size [1, 1, 1, 1, 1, 1, 1, 16, 1, 16] (Q1h H) 0) (A.eval (.tmp 1)) W ∧ (OwnBA β w.heap.size 5 ([96, 0, 0, 0] ++ put2 (H.total - 40) ++ [b8 H.proto, b8 H.hop] ++ H.src.b.take 16 ++ H.dst.b.take j)) (A.eval (.tmp 4)) W ∧ (Is (.int .i64 (j : Int))) (A.eval (.tmp 6)) W) ?start21 ?_
 case start21 =>
  refine ⟨_, 0, β, rfl, hr, Same.rfl, e_w, (by first | assumption | omega), (by first | assumption | omega), ?_, ?_, ?_⟩
  · exact (Q00 e_w9 s1)
  · exact OwnBA.cast (Q00 e_w9 s4) (by simp)
  · first | exact s6 | exact Is.int s6 (by first | omega | simp) | exact Is.bool s6 (by first | omega | simp)
 intro n21 a21 w21 hI
 clear e_w
 clear e_w9
 clear hr; obtain ⟨j, β, hn21, hr, hs, e_w, hj, ne2, u1, u4, u6⟩ := hI
 clear s1 s4 s6
 have s1 := u1; clear u1
 have s4 := u4; clear u4
 have s6 := u6; clear u6
 have m21 := hs; clear hs
 refine sq ?_
 refine sq ?_
 refine Q04 48 [[(6, none)], [(35, some 0)]] [?b22_0, ?b22_1] Q07 hr ?t22 ?o22 ?_
 case o22 =>
  apply oc0; intro A W hx hf
  exact Q01 (a0 := a21) (r0 hf)
  apply oc0; intro A W hx hf
  exact Q1e (p1 s6 hx (q0 ?b22_0 A W 35 hf)) (ec A (.int .i64 16))
  exact onn
 case t22 => exact inferInstance
 clear hr; intro a23 w23 x hr hd hs
 revert s6; revert s4; revert s1; refine kp3 hs rfl ?_; intro s1 s4 s6
 have s36 := fa ?b22_1 a23 w23 36 (hd 1 36 rfl)
 replace e_w := e_w.trans x
 have e_w21 := x
 replace m21 := m21.tr hs rfl; clear hd hs x
 refine et ?_
 refine wp_cond_split (show _ = _ from s36) (fun hlt => ?_) (fun hlt => ?_)
 ·
  have hlt : j < 16 := by simp at hlt; omega
  refine wp_skip ?_
  refine es ?_
  refine wp_block ?_
  refine Q05 (l := [_, _, _, _, _, _, _]) (rest := [_, _]) 48 [[(4, none)], [(6, none)], [(1, none)], [(41, some 2)], [(42, some 3), (40, some 1)], [(43, some 4)], [(44, some 5)]] [?b25_0, ?b25_1, ?b25_2, ?b25_3, ?b25_4, ?b25_5, ?b25_6] hr ?t25 ?o25 ?_
  case o25 =>
   apply oc0; intro A W hx hf
   exact Q01 (a0 := a23) (r0 hf)
   apply oc0; intro A W hx hf
   exact Q01 (a0 := a23) (r0 hf)
   apply oc0; intro A W hx hf
   exact Q02 8 tu62 (k := 7) rfl Q16 rfl (o2 s1 e_w21 hx (r0 hf)) rfl
   apply oc0; intro A W hx hf
   exact Q02 9 tu25 (k := 1) rfl Q4a rfl (q0 ?b25_2 A W 41 hf) rfl
   apply oc0; intro A W hx hf
   exact Q2j (_) tu23 Q0i (q0 ?b25_3 A W 42 hf) (p2 s6 e_w21 hx (q1 ?b25_1 A W 40 hf)) rfl (by omega)
   apply oc0; intro A W hx hf
   exact Q4e tu5 rfl (q0 ?b25_4 A W 43 hf) rfl (by first | omega | (simp; omega) | (simp [*]; omega))
   apply oc0; intro A W hx hf
   exact Q1m [(.tmp 44)] [_] tu22 Q0i Q2v rfl rfl (by decide) (PartsOk.cons (q0 ?b25_5 A W 44 hf) (PartsOk.nil))
   exact onn
  case t25 => exact inferInstance
  clear hr; intro a26 w26 x hr hd hs
  have u39 := mv s4 (fa ?b25_0 a26 w26 39 (hd 0 39 rfl))
  revert s6; revert s4; revert s1; refine kp3 hs rfl ?_; intro s1 s4 s6
  clear s36
  have s39 := u39; clear u39
  have s45 := fa ?b25_6 a26 w26 45 (hd 6 45 rfl)
  replace e_w := e_w.trans x
  replace e_w21 := e_w21.trans x
  replace m21 := m21.tr hs rfl; clear hd hs x
  have l27 := OwnBA.lt (Q00 e_w21 s39)
  have l27_1 := PxS.lt (Q00 e_w21 s1)
  refine Q0s hr (by decide) tu22 Q2q rfl (Q00 e_w21 s39) s45 e_w.size (by first | (simp [Q13]; done) | (simp [Q13]; omega)) ?_; clear hr; intro g27 a27 w27 hg27 hc hr hd hs
  have hb := hc.below e_w.size l27.1
  revert s6; revert s1; refine kp2 hs rfl ?_; intro s1 s6
  clear s4 s39 s45
  replace s1 := PxS.other (Q00 e_w21 s1) hc (by omega)
  have s46 := hd
  replace e_w := e_w.below (Nat.le_refl _) hb
  clear e_w21
  replace s6 := anyw (w2 := w27) s6
  replace m21 := m21.tr hs rfl
  clear hd hs hb hc
  refine Q10 hr (Q03 s46) inferInstance ?_; clear hr; intro a28 w28 x hr hd hs
  revert s6; revert s1; refine kp2 hs rfl ?_; intro s1 s6
  clear s46
  have s4 := hd 4 rfl (by decide)
  replace e_w := e_w.trans x
  have e_w27 := x
  replace m21 := m21.tr hs rfl; clear hd hs x
  refine wpList_nil ?_
  refine Q0w ?_
  refine et ?_
  refine Q04 48 [[(6, none)], [(37, some 0)], [(38, some 1)]] [?b29_0, ?b29_1, ?b29_1] Q07 hr ?t29 ?o29 ?_
  case o29 =>
   apply oc0; intro A W hx hf
   exact Q01 (a0 := a28) (r0 hf)
   apply oc0; intro A W hx hf
   exact Q0h (p2 s6 e_w27 hx (q0 ?b29_0 A W 37 hf)) (ec A (.int .i64 1)) (by omega)
   apply oc0; intro A W hx hf
   exact Q03 (q0 ?b29_1 A W 38 hf)
   exact onn
  case t29 => exact inferInstance
  clear hr; intro a30 w30 x hr hd hs
  revert s4; revert s1; refine kp2 hs rfl ?_; intro s1 s4
  clear s6
  have s6 := fa ?b29_1 a30 w30 6 (hd 2 6 rfl)
  replace e_w := e_w.trans x
  replace e_w27 := e_w27.trans x
  have e_w28 := x
  replace m21 := m21.tr hs rfl; clear hd hs x
  refine et ?_
  refine ⟨(fun (j β : Nat) => 16 - j) (j + 1) (0), ?_, ?_⟩
  · (try dsimp only); omega
  refine ⟨j + 1, g27, rfl, hr, m21, e_w, (by first | assumption | omega), (by first | assumption | omega), ?_, ?_, ?_⟩
  · exact (Q00 e_w27 s1)
  · exact OwnBA.cast (Q00 e_w28 s4) (by rw [Q3i (l := H.dst.b) (by omega), ← List.append_assoc])
  · first | exact s6 | exact Is.int s6 (by first | omega | simp) | exact Is.bool s6 (by first | omega | simp)
 have hlt : j = 16 := by simp at hlt; omega
 subst hlt
 refine wp_exit ?_
 refine Q0g ?_
 refine Q0g ?_
 refine Q1b ?_
 refine es ?_
 refine Q04 48 [[(4, none)], [(47, some 0)]] [?b31_0, ?b31_0] Q07 hr ?t31 ?o31 ?_
 case o31 =>
  apply oc0; intro A W hx hf
  exact Q01 (a0 := a23) (r0 hf)
  apply oc0; intro A W hx hf
  exact Q03 (q0 ?b31_0 A W 47 hf)
  exact onn
 case t31 => exact inferInstance
 clear hr; intro a32 w32 x hr hd hs
 have u2 := mv s4 (fa ?b31_0 a32 w32 2 (hd 1 2 rfl))
 clear s1 s4 s6 s36
 have s2 := u2; clear u2
 replace e_w := e_w.trans x
 replace e_w21 := e_w21.trans x; clear hd hs x
 refine et ?_
 refine wp_ret ?_
 refine Q14 Try.results34 hr e_w ?_
 exact OwnB.cast (OwnB.mono (Q00 e_w21 s2).own hB) (by rw [List.take_of_length_le (by omega), List.take_of_length_le (by omega)]; simp [Qcq])

end Go.Proofs.Ytlmdboaghojgiaa
