import Derived.Test.YtlmdboaghojgiaaC08
import Derived.Test.YtlmdboaghojgiaaC09
import Derived.Test.YtlmdboaghojgiaaT11
namespace Go.Proofs.Ytlmdboaghojgiaa
open Go.RowKit
set_option linter.unusedVariables false
set_option linter.unusedSimpArgs false
set_option maxRecDepth 4000
theorem Qk9 {x0 : Value} {w : World} {z : Int} (h0 : (Is (.int .i64 z)) x0 w)  :
    Calls Try.prog 60 #[x0] w (Ret (Is (.bool (Q5p z))) w) := by
 refine enter Try.func60 rfl Try.ntmps60 (k := 1) rfl (by decide) (fun a0 hr hargs => ?_)
 have s0 := sarg h0 (hargs 0 (by decide))
 clear hargs
 refine sq ?_
 refine Q04 9 [[]] [?b1_0] Q08 hr ?t1 ?o1 ?_
 case o1 =>
  apply oc0; intro A W hx hf
  exact Q05
  exact onn
 case t1 => exact inferInstance
 clear hr; intro a2 w2 x hr hd hs
 revert s0; refine kp1 hs rfl ?_; intro s0
 have e_w := x; clear hd hs x
 refine es ?_
 refine Q04 9 [[(0, none)], [(3, some 0)], [(4, some 1)], [(0, none), (5, some 2)], [(6, some 3), (5, some 2)], [(5, some 2), (7, some 4)], [(8, some 5)]] [?b3_0, ?b3_1, ?b3_1, ?b3_3, ?b3_4, ?b3_5, ?b3_5] Q08 hr ?t3 ?o3 ?_
 case o3 =>
  apply oc0; intro A W hx hf
  exact Q01 (a0 := a2) (r0 hf)
  apply oc0; intro A W hx hf
  exact Q1i (p2 s0 e_w hx (q0 ?b3_0 A W 3 hf)) (ec A (.int .i64 6))
  apply oc0; intro A W hx hf
  exact Q0h (q0 ?b3_1 A W 4 hf)
  refine ocg 5 ?_ (fun A W hx hf => ?_) ?_
  rfl
  exact gd_f (q1 ?b3_1 A W 5 hf) (fun hc => Q01 (a0 := a2) (r0 hf))
  refine ocg 5 ?_ (fun A W hx hf => ?_) ?_
  rfl
  exact gd_f (q1 ?b3_1 A W 5 hf) (fun hc => Q1i (p2 s0 e_w hx (G.get (q0 ?b3_3 A W 6 hf) hc)) (ec A (.int .i64 17)))
  apply oc0; intro A W hx hf
  exact Q3o (q0 ?b3_1 A W 5 hf) (q1 ?b3_4 A W 7 hf)
  apply oc0; intro A W hx hf
  exact Q03 (q0 ?b3_5 A W 8 hf)
  exact onn
 case t3 => exact inferInstance
 clear hr; intro a4 w4 x hr hd hs
 clear s0
 have s2 := fa ?b3_5 a4 w4 2 (hd 6 2 rfl)
 replace e_w := e_w.trans x; clear hd hs x
 refine et ?_
 refine wp_ret ?_
 refine Q0r Try.results60 hr e_w ?_
 exact Is.bool s2 rfl

theorem Qk8 {x0 x1 : Value} {w : World} {z : Int} {l : List UInt8} (h0 : (Is (.int .i64 z)) x0 w) (h1 : (Bs l) x1 w)  :
    Calls Try.prog 59 #[x0, x1] w (Ret (Tup2 (Is (Qeo (netT z l).1)) (Is (.int .i64 (netT z l).2))) w) := by
 have hlen := Bs.len_le h1
 refine enter Try.func59 rfl Try.ntmps59 (k := 2) rfl (by decide) (fun a0 hr hargs => ?_)
 have s0 := sarg h0 (hargs 0 (by decide))
 have s1 := sarg h1 (hargs 1 (by decide))
 clear hargs
 refine sq ?_
 refine Q04 50 [[], []] [?b1_0, ?b1_1] Q08 hr ?t1 ?o1 ?_
 case o1 =>
  apply oc0; intro A W hx hf
  exact Q0y [(Q66 Qnx).flatten] [38] Qbv (by rfl) (by rfl) hx.size
  apply oc0; intro A W hx hf
  exact Q05
  exact onn
 case t1 => exact inferInstance
 clear hr; intro a2 w2 x hr hd hs
 revert s1; revert s0; refine kp2 hs rfl ?_; intro s0 s1
 have s4 := fa ?b1_0 a2 w2 4 (hd 0 4 rfl)
 obtain ⟨g2_4, q2_4⟩ := PxN.at s4; clear s4; have n2_4 := PxS.lt q2_4
 have s4 := q2_4; clear q2_4
 have e_w := x; clear hd hs x
 refine es ?_
 refine sq ?_
 refine Q04 50 [[(0, none)], [(10, some 0)]] [?b3_0, ?b3_1] Q08 hr ?t3 ?o3 ?_
 case o3 =>
  apply oc0; intro A W hx hf
  exact Q01 (a0 := a2) (r0 hf)
  apply oc0; intro A W hx hf
  exact Q1i (p2 s0 e_w hx (q0 ?b3_0 A W 10 hf)) (ec A (.int .i64 2048))
  exact onn
 case t3 => exact inferInstance
 clear hr; intro a4 w4 x hr hd hs
 revert s4; revert s1; refine kp2 hs rfl ?_; intro s1 s4
 clear s0
 have s11 := fa ?b3_1 a4 w4 11 (hd 1 11 rfl)
 replace e_w := e_w.trans x
 have e_w2 := x; clear hd hs x
 refine et ?_
 refine wp_cond_split (show _ = _ from s11) (fun hk => ?_) (fun hk => ?_)
 ·
  have hk : z = 2048 := by simpa using hk
  have hn9 : netT z l = _ := if_pos hk
  refine sq ?_
  refine Q06 (l := [_, _, _, _, _, _]) (rest := [_, _]) 50 [[(1, none)], [(13, some 0)], [(14, some 1)], [(12, some 2)], [(12, some 2)], []] [?b6_0, ?b6_1, ?b6_1, ?b6_3, ?b6_4, ?b6_5] hr ?t6 ?o6 ?_
  case o6 =>
   apply oc0; intro A W hx hf
   exact Q01 (a0 := a4) (r0 hf)
   apply oc0; intro A W hx hf
   exact Q18 Qq8 (Qew (p2 s1 e_w hx (q0 ?b6_0 A W 13 hf)))
   apply oc0; intro A W hx hf
   exact Q0h (q0 ?b6_1 A W 14 hf)
   apply oc0; intro A W hx hf
   exact Q2t (q0 ?b6_1 A W 12 hf)
   apply oc0; intro A W hx hf
   exact Q2u (q0 ?b6_1 A W 12 hf)
   apply oc0; intro A W hx hf
   exact Q0y (Q5d Q63) [1, 1, 1, 1, 1, 1, 1, 1, 1, 16, 1, 16] Qis (by rfl) (by rfl) hx.size
   exact onn
  case t6 => exact inferInstance
  clear hr; intro a7 w7 x hr hd hs
  have z_w_w4 := e_w.size
  have z_w2_w4 := e_w2.size
  have l7_4 := PxS.lt (Q00 e_w2 s4)
  revert s4; refine kp1 hs rfl ?_; intro s4
  clear s1 s11
  have s15 := fa ?b6_3 a7 w7 15 (hd 3 15 rfl)
  have s16 := fa ?b6_4 a7 w7 16 (hd 4 16 rfl)
  have s6 := fa ?b6_5 a7 w7 6 (hd 5 6 rfl)
  obtain ⟨g7_6, q7_6⟩ := PxN.at s6; clear s6; have n7_6 := PxS.lt q7_6
  replace q7_6 := PxS.mono q7_6 e_w.size
  have s6 := q7_6; clear q7_6
  replace e_w := e_w.trans x
  replace e_w2 := e_w2.trans x; clear hd hs x
  have z8 := PxS.lt s6
  have l8 := (show (g7_6 = 0 ∨ w.heap.size < g7_6) ∧ True from ⟨by omega, trivial⟩)
  have l8_4 := PxS.lt (Q00 e_w2 s4)
  refine Q19 (Q5d (Q0q l).1) hr Q4g s6 s15 (by exact Qa7 (Q5r _)) (by exact Q51) rfl ?_; clear hr; intro a8 w8 hc hu hr hs
  have hb : Below w.heap.size w7 w8 := hc.below e_w.size l8.1
  revert s6; revert s16; revert s4; refine kp3 hs rfl ?_; intro s4 s16 s6
  clear s15
  replace s4 := PxS.other (Q00 e_w2 s4) hc (by omega)
  replace s6 := hu _ _ _ s6
  try simp only [List.set_cons_zero, List.set_cons_succ, Q5d, Q2r] at s6
  replace e_w := e_w.below (Nat.le_refl _) hb
  clear e_w2
  replace s16 := anyw (w2 := w8) s16
  clear hu hs hc hb
  refine Q11 hr (Q03 s16) inferInstance ?_; clear hr; intro a9 w9 x hr hd hs
  revert s6; revert s4; refine kp2 hs rfl ?_; intro s4 s6
  clear s16
  have s7 := hd 7 rfl (by decide)
  replace e_w := e_w.trans x
  have e_w8 := x; clear hd hs x
  refine wpList_nil ?_
  refine es ?_
  refine Q06 (l := [_, _, _, _, _, _, _, _, _, _, _, _, _, _]) (rest := [_, _]) 50 [[(6, none)], [(17, some 0)], [(6, none)], [(19, some 2)], [(6, none)], [(21, some 4)], [(6, none)], [(23, some 6)], [(6, none)], [(25, some 8)], [(6, none)], [(27, some 10)], [(18, some 1), (20, some 3), (22, some 5), (24, some 7), (26, some 9), (28, some 11)], [(7, none)]] [?b10_0, ?b10_1, ?b10_2, ?b10_3, ?b10_4, ?b10_5, ?b10_6, ?b10_7, ?b10_8, ?b10_9, ?b10_10, ?b10_11, ?b10_12, ?b10_13] hr ?t10 ?o10 ?_
  case o10 =>
   apply oc0; intro A W hx hf
   exact Q02 0 tu58 (k := 0) rfl Q0m rfl (o2 s6 e_w8 hx (r0 hf)) rfl
   apply oc0; intro A W hx hf
   exact Q0a tu3 rfl (q0 ?b10_0 A W 17 hf) rfl
   apply oc0; intro A W hx hf
   exact Q02 1 tu58 (k := 1) rfl Q0m rfl (o2 s6 e_w8 hx (r0 hf)) rfl
   apply oc0; intro A W hx hf
   exact Q0a tu3 rfl (q0 ?b10_2 A W 19 hf) rfl
   apply oc0; intro A W hx hf
   exact Q02 7 tu58 (k := 7) rfl Q0m rfl (o2 s6 e_w8 hx (r0 hf)) rfl
   apply oc0; intro A W hx hf
   exact Q0a tu3 rfl (q0 ?b10_4 A W 21 hf) rfl
   apply oc0; intro A W hx hf
   exact Q02 4 tu58 (k := 4) rfl Q4r rfl (o2 s6 e_w8 hx (r0 hf)) rfl
   apply oc0; intro A W hx hf
   exact Q0a tu4 rfl (q0 ?b10_6 A W 23 hf) rfl
   apply oc0; intro A W hx hf
   exact Q02 8 tu58 (k := 8) rfl Q0z rfl (o2 s6 e_w8 hx (r0 hf)) rfl
   apply oc0; intro A W hx hf
   exact Q0b 10 tu25 rfl Q0z (q0 ?b10_8 A W 25 hf) rfl
   apply oc0; intro A W hx hf
   exact Q02 10 tu58 (k := 9) rfl Q0z rfl (o2 s6 e_w8 hx (r0 hf)) rfl
   apply oc0; intro A W hx hf
   exact Q0b 12 tu25 rfl Q0z (q0 ?b10_10 A W 27 hf) rfl
   apply oc0; intro A W hx hf
   exact Q1e [(0, (.tmp 18)), (1, (.tmp 20)), (2, (.tmp 22)), (3, (.tmp 24)), (4, (.tmp 26)), (5, (.tmp 28))] [(0, _), (1, _), (2, _), (3, _), (4, _), (5, _)] Qmw rfl (PartsC.one (q0 ?b10_1 A W 18 hf) rfl (PartsC.one (q1 ?b10_3 A W 20 hf) rfl (PartsC.one (q2 ?b10_5 A W 22 hf) rfl (PartsC.one (q3 ?b10_7 A W 24 hf) rfl (PartsC.agg (q4 ?b10_9 A W 26 hf) (PartsC.agg (q5 ?b10_11 A W 28 hf) (PartsC.nil))))))) (by simp [(Q5r l).1, (Q5r l).2])
   apply oc0; intro A W hx hf
   exact Q01 (a0 := a9) (r0 hf)
   exact onn
  case t10 => exact inferInstance
  clear hr; intro a11 w11 x hr hd hs
  have u30 := mv s7 (fa ?b10_13 a11 w11 30 (hd 13 30 rfl))
  revert s4; refine kp1 hs rfl ?_; intro s4
  clear s6 s7
  have s30 := u30; clear u30
  have s29 := fa ?b10_12 a11 w11 29 (hd 12 29 rfl)
  replace e_w := e_w.trans x
  replace e_w8 := e_w8.trans x
  have e_w9 := x; clear hd hs x
  have z12 := PxS.lt (Q00 e_w8 s4)
  have l12 := (show (g2_4 = 0 ∨ w.heap.size < g2_4) ∧ True from ⟨by omega, trivial⟩)
  refine Q0k hr Q8g (Q00 e_w8 s4) (Is.conv s29 (show _ = Qeo (netT z l).1 from by rw [hn9]; simp [Qeo, Q66, Q5b, Q0l, Q5d])) (by exact Qg7 (Q74 _ _)) (by exact Q9b) rfl ?_; clear hr; intro a12 w12 hc hu hr hs
  have hb : Below w.heap.size w11 w12 := hc.below e_w.size l12.1
  revert s30; revert s4; refine kp2 hs rfl ?_; intro s4 s30
  clear s29
  replace s4 := hu _ _ _ (Q00 e_w8 s4)
  try simp only [List.set_cons_zero, List.set_cons_succ, Q5d, Q2r] at s4
  replace e_w := e_w.below (Nat.le_refl _) hb
  clear e_w8
  clear e_w9
  replace s30 := anyw (w2 := w12) s30
  clear hu hs hc hb
  refine Q11 hr (Q03 s30) inferInstance ?_; clear hr; intro a13 w13 x hr hd hs
  revert s4; refine kp1 hs rfl ?_; intro s4
  clear s30
  have s5 := hd 5 rfl (by decide)
  replace e_w := e_w.trans x
  have e_w12 := x; clear hd hs x
  refine wpList_nil ?_
  refine et ?_
  refine wp_ret ?_
  refine Q0e ?_
  refine Q0f Try.results59 hr Q73 rfl Q8g (Q00 e_w12 s4) e_w ?_
  rw [hn9]; exact ⟨_, _, rfl, by rw [← hn9]; rfl, s5⟩
 have hk : z ≠ 2048 := by simpa using hk
 have hn9 : netT z l = _ := if_neg hk
 refine wp_skip ?_
 refine es ?_
 refine Q06 (l := [_, _, _, _, _, _]) (rest := [_, _]) 50 [[(1, none)], [(32, some 0)], [(33, some 1)], [(31, some 2)], [(31, some 2)], []] [?b14_0, ?b14_1, ?b14_1, ?b14_3, ?b14_4, ?b14_5] hr ?t14 ?o14 ?_
 case o14 =>
  apply oc0; intro A W hx hf
  exact Q01 (a0 := a4) (r0 hf)
  apply oc0; intro A W hx hf
  exact Q18 Qq9 (Qoo (p2 s1 e_w hx (q0 ?b14_0 A W 32 hf)))
  apply oc0; intro A W hx hf
  exact Q0h (q0 ?b14_1 A W 33 hf)
  apply oc0; intro A W hx hf
  exact Q2t (q0 ?b14_1 A W 31 hf)
  apply oc0; intro A W hx hf
  exact Q2u (q0 ?b14_1 A W 31 hf)
  apply oc0; intro A W hx hf
  exact Q0y (Q2r six0) [1, 1, 1, 1, 1, 1, 1, 16, 1, 16] Qei (by rfl) (by rfl) hx.size
  exact onn
 case t14 => exact inferInstance
 clear hr; intro a15 w15 x hr hd hs
 have z_w_w4 := e_w.size
 have z_w2_w4 := e_w2.size
 have l15_4 := PxS.lt (Q00 e_w2 s4)
 revert s4; refine kp1 hs rfl ?_; intro s4
 clear s1 s11
 have s34 := fa ?b14_3 a15 w15 34 (hd 3 34 rfl)
 have s35 := fa ?b14_4 a15 w15 35 (hd 4 35 rfl)
 have s8 := fa ?b14_5 a15 w15 8 (hd 5 8 rfl)
 obtain ⟨g15_8, q15_8⟩ := PxN.at s8; clear s8; have n15_8 := PxS.lt q15_8
 replace q15_8 := PxS.mono q15_8 e_w.size
 have s8 := q15_8; clear q15_8
 replace e_w := e_w.trans x
 replace e_w2 := e_w2.trans x; clear hd hs x
 have z16 := PxS.lt s8
 have l16 := (show (g15_8 = 0 ∨ w.heap.size < g15_8) ∧ True from ⟨by omega, trivial⟩)
 have l16_4 := PxS.lt (Q00 e_w2 s4)
 refine Q19 (Q2r (Q0j l).1) hr Q4h s8 (Is.conv s34 (show SixV _ = _ from by unfold SixV; rw [Qac])) (by exact Q8l (Q6s _)) (by rw [Qac]; exact Q6k) rfl ?_; clear hr; intro a16 w16 hc hu hr hs
 have hb : Below w.heap.size w15 w16 := hc.below e_w.size l16.1
 revert s8; revert s35; revert s4; refine kp3 hs rfl ?_; intro s4 s35 s8
 clear s34
 replace s4 := PxS.other (Q00 e_w2 s4) hc (by omega)
 replace s8 := hu _ _ _ s8
 try simp only [List.set_cons_zero, List.set_cons_succ, Q5d, Q2r] at s8
 replace e_w := e_w.below (Nat.le_refl _) hb
 clear e_w2
 replace s35 := anyw (w2 := w16) s35
 clear hu hs hc hb
 refine Q11 hr (Q03 s35) inferInstance ?_; clear hr; intro a17 w17 x hr hd hs
 revert s8; revert s4; refine kp2 hs rfl ?_; intro s4 s8
 clear s35
 have s9 := hd 9 rfl (by decide)
 replace e_w := e_w.trans x
 have e_w16 := x; clear hd hs x
 refine wpList_nil ?_
 refine es ?_
 refine Q06 (l := [_, _, _, _, _, _, _, _, _, _, _, _, _, _]) (rest := [_, _]) 50 [[(8, none)], [(36, some 0)], [(8, none)], [(38, some 2)], [(8, none)], [(40, some 4)], [(8, none)], [(42, some 6)], [(8, none)], [(44, some 8)], [(8, none)], [(46, some 10)], [(37, some 1), (39, some 3), (41, some 5), (43, some 7), (45, some 9), (47, some 11)], [(9, none)]] [?b18_0, ?b18_1, ?b18_2, ?b18_3, ?b18_4, ?b18_5, ?b18_6, ?b18_7, ?b18_8, ?b18_9, ?b18_10, ?b18_11, ?b18_12, ?b18_13] hr ?t18 ?o18 ?_
 case o18 =>
  apply oc0; intro A W hx hf
  exact Q02 0 tu62 (k := 0) rfl Q0m rfl (o2 s8 e_w16 hx (r0 hf)) rfl
  apply oc0; intro A W hx hf
  exact Q0a tu3 rfl (q0 ?b18_0 A W 36 hf) rfl
  apply oc0; intro A W hx hf
  exact Q02 1 tu62 (k := 1) rfl Q0m rfl (o2 s8 e_w16 hx (r0 hf)) rfl
  apply oc0; intro A W hx hf
  exact Q0a tu3 rfl (q0 ?b18_2 A W 38 hf) rfl
  apply oc0; intro A W hx hf
  exact Q02 5 tu62 (k := 5) rfl Q0m rfl (o2 s8 e_w16 hx (r0 hf)) rfl
  apply oc0; intro A W hx hf
  exact Q0a tu3 rfl (q0 ?b18_4 A W 40 hf) rfl
  apply oc0; intro A W hx hf
  exact Q02 3 tu62 (k := 3) rfl Q4r rfl (o2 s8 e_w16 hx (r0 hf)) rfl
  apply oc0; intro A W hx hf
  exact Q0a tu4 rfl (q0 ?b18_6 A W 42 hf) rfl
  apply oc0; intro A W hx hf
  exact Q02 6 tu62 (k := 6) rfl Q0z rfl (o2 s8 e_w16 hx (r0 hf)) rfl
  apply oc0; intro A W hx hf
  exact Q0b 8 tu25 rfl Q0z (q0 ?b18_8 A W 44 hf) rfl
  apply oc0; intro A W hx hf
  exact Q02 8 tu62 (k := 7) rfl Q0z rfl (o2 s8 e_w16 hx (r0 hf)) rfl
  apply oc0; intro A W hx hf
  exact Q0b 10 tu25 rfl Q0z (q0 ?b18_10 A W 46 hf) rfl
  apply oc0; intro A W hx hf
  exact Q1e [(0, (.tmp 37)), (1, (.tmp 39)), (2, (.tmp 41)), (3, (.tmp 43)), (4, (.tmp 45)), (5, (.tmp 47))] [(0, _), (1, _), (2, _), (3, _), (4, _), (5, _)] Qmw rfl (PartsC.one (q0 ?b18_1 A W 37 hf) rfl (PartsC.one (q1 ?b18_3 A W 39 hf) rfl (PartsC.one (q2 ?b18_5 A W 41 hf) rfl (PartsC.one (q3 ?b18_7 A W 43 hf) rfl (PartsC.agg (q4 ?b18_9 A W 45 hf) (PartsC.agg (q5 ?b18_11 A W 47 hf) (PartsC.nil))))))) (by simp [(Q6s l).1, (Q6s l).2])
  apply oc0; intro A W hx hf
  exact Q01 (a0 := a17) (r0 hf)
  exact onn
 case t18 => exact inferInstance
 clear hr; intro a19 w19 x hr hd hs
 have u49 := mv s9 (fa ?b18_13 a19 w19 49 (hd 13 49 rfl))
 revert s4; refine kp1 hs rfl ?_; intro s4
 clear s8 s9
 have s49 := u49; clear u49
 have s48 := fa ?b18_12 a19 w19 48 (hd 12 48 rfl)
 replace e_w := e_w.trans x
 replace e_w16 := e_w16.trans x
 have e_w17 := x; clear hd hs x
 have z20 := PxS.lt (Q00 e_w16 s4)
 have l20 := (show (g2_4 = 0 ∨ w.heap.size < g2_4) ∧ True from ⟨by omega, trivial⟩)
 refine Q0k hr Q8g (Q00 e_w16 s4) (Is.conv s48 (show _ = Qeo (netT z l).1 from by rw [hn9]; simp [Qeo, Q66, Q5b, Q0l, Q2r])) (by exact Qg7 (Q74 _ _)) (by exact Q9b) rfl ?_; clear hr; intro a20 w20 hc hu hr hs
 have hb : Below w.heap.size w19 w20 := hc.below e_w.size l20.1
 revert s49; revert s4; refine kp2 hs rfl ?_; intro s4 s49
 clear s48
 replace s4 := hu _ _ _ (Q00 e_w16 s4)
 try simp only [List.set_cons_zero, List.set_cons_succ, Q5d, Q2r] at s4
 replace e_w := e_w.below (Nat.le_refl _) hb
 clear e_w16
 clear e_w17
 replace s49 := anyw (w2 := w20) s49
 clear hu hs hc hb
 refine Q11 hr (Q03 s49) inferInstance ?_; clear hr; intro a21 w21 x hr hd hs
 revert s4; refine kp1 hs rfl ?_; intro s4
 clear s49
 have s5 := hd 5 rfl (by decide)
 replace e_w := e_w.trans x
 have e_w20 := x; clear hd hs x
 refine wpList_nil ?_
 refine et ?_
 refine wp_ret ?_
 refine Q0f Try.results59 hr Q73 rfl Q8g (Q00 e_w20 s4) e_w ?_
 rw [hn9]; exact ⟨_, _, rfl, by rw [← hn9]; rfl, s5⟩

end Go.Proofs.Ytlmdboaghojgiaa
