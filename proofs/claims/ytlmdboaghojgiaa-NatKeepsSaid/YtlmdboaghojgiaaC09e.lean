import Derived.Test.YtlmdboaghojgiaaC09m
namespace Go.Proofs.Ytlmdboaghojgiaa
open Go.RowKit
set_option linter.unusedVariables false
set_option linter.unusedSimpArgs false
set_option maxRecDepth 4000
def Qd4 : List Tmp := [3, 5, 46, 47, 48, 49, 50, 51, 52, 53, 54, 55, 56, 57, 58, 59, 60, 61, 62, 63, 64, 65, 66, 67, 68, 69, 70, 71, 72, 73, 74, 75, 76, 77, 78, 79, 80, 81, 82, 83, 84, 85, 86, 87, 88, 89, 90, 91, 92, 93, 94, 95, 96, 97, 98, 99, 100, 101, 102, 103, 104, 105, 106, 107, 108, 109, 110, 111, 112, 113, 114, 115, 116, 117, 118, 119, 120, 121, 122, 123, 124, 125, 126, 127]
def Q8l : List Tmp := [111]
set_option maxHeartbeats 1000000 in
theorem Qkw {x0 : Value} {w : World} {l : List UInt8} (h0 : (Bs l) x0 w)  :
    Calls Try.prog 25 #[x0] w (Ret (Tup2 (Is (SixV (Q12 l).1)) (Is (.int .i64 (Q12 l).2))) w) := by
 have hlen := Bs.len_le h0
 have w4 := Q1a l 4
 refine enter Try.func25 rfl Try.ntmps25 (k := 1) rfl (by decide) (fun a0 hr hargs => ?_)
 have s0 := sarg h0 (hargs 0 (by decide))
 clear hargs
 refine sq ?_
 refine Q04 129 [[], []] [?b1_0, ?b1_1] Q07 hr ?t1 ?o1 ?_
 case o1 =>
  apply oc0; intro A W hx hf
  exact Q0v [(sixS six0).flatten] [40] Q83 (by rfl) (by rfl) hx.size
  apply oc0; intro A W hx hf
  exact Q06
  exact onn
 case t1 => exact inferInstance
 clear hr; intro a2 w2 x hr hd hs
 revert s0; refine kp1 hs rfl ?_; intro s0
 have s2 := fa ?b1_0 a2 w2 2 (hd 0 2 rfl)
 obtain ⟨g2_2, q2_2⟩ := PxN.at s2; clear s2; have n2_2 := PxS.lt q2_2
 have s2 := q2_2; clear q2_2
 have e_w := x; clear hd hs x
 refine es ?_
 refine sq ?_
 refine Q04 129 [[(0, none)], [(6, some 0)], [(7, some 1)]] [?b3_0, ?b3_1, ?b3_2] Q07 hr ?t3 ?o3 ?_
 case o3 =>
  apply oc0; intro A W hx hf
  exact Q01 (a0 := a2) (r0 hf)
  apply oc0; intro A W hx hf
  exact Q0u tu22 (p2 s0 e_w hx (q0 ?b3_0 A W 6 hf))
  apply oc0; intro A W hx hf
  exact Q1e (q0 ?b3_1 A W 7 hf) (ec A (.int .i64 40))
  exact onn
 case t3 => exact inferInstance
 clear hr; intro a4 w4 x hr hd hs
 revert s2; revert s0; refine kp2 hs rfl ?_; intro s0 s2
 have s8 := fa ?b3_2 a4 w4 8 (hd 2 8 rfl)
 replace e_w := e_w.trans x
 have e_w2 := x; clear hd hs x
 refine et ?_
 refine wp_cond_split (show _ = _ from s8) (fun hl => ?_) (fun hl => ?_)
 ·
  have hl : l.length < 40 := by simp at hl; omega
  have hrd : Q12 l = (six0, 2) := by unfold Q12; rw [if_pos hl]
  refine sq ?_
  refine Q05 (l := [_]) (rest := [_, _]) 129 [[]] [?b6_0] hr ?t6 ?o6 ?_
  case o6 =>
   apply oc0; intro A W hx hf
   exact Q0x Q4p
   exact onn
  case t6 => exact inferInstance
  clear hr; intro a7 w7 x hr hd hs
  revert s2; refine kp1 hs rfl ?_; intro s2
  clear s0 s8
  have s9 := fa ?b6_0 a7 w7 9 (hd 0 9 rfl)
  replace e_w := e_w.trans x
  replace e_w2 := e_w2.trans x; clear hd hs x
  have z8 := PxS.lt (Q00 e_w2 s2)
  have l8 := (show (g2_2 = 0 ∨ w.heap.size < g2_2) ∧ True from ⟨by omega, trivial⟩)
  refine Q0b hr Q23 (Q00 e_w2 s2) s9 (by exact Q3x Q33) (by exact Q2x) rfl ?_; clear hr; intro a8 w8 hc hu hr hs
  have hb : Below w.heap.size w7 w8 := hc.below e_w.size l8.1
  revert s2; refine kp1 hs rfl ?_; intro s2
  clear s9
  replace s2 := hu _ _ _ (Q00 e_w2 s2)
  try simp only [List.set_cons_zero, List.set_cons_succ, Q1h] at s2
  replace e_w := e_w.below (Nat.le_refl _) hb
  clear e_w2
  clear hu hs hc hb
  refine Q10 hr (Q06) inferInstance ?_; clear hr; intro a9 w9 x hr hd hs
  revert s2; refine kp1 hs rfl ?_; intro s2
  have s3 := hd 3 rfl (by decide)
  replace e_w := e_w.trans x
  have e_w8 := x; clear hd hs x
  refine wpList_nil ?_
  refine et ?_
  refine wp_ret ?_
  refine Q0d ?_
  refine Q0c Try.results25 hr tu62 rfl Q23 (Q00 e_w8 s2) e_w ?_
  (rw [hrd]; exact ⟨_, _, rfl, rfl, s3⟩)
 have hl : ¬ l.length < 40 := by simp at hl; omega
 have e0 : (l[0]'(by omega)).toNat = Q08 l 0 := (Q0o (by omega)).symm
 have y0 := Q17 l 0
 have e4 : (l[4]'(by omega)).toNat = Q08 l 4 := (Q0o (by omega)).symm
 have y4 := Q17 l 4
 have e5 : (l[5]'(by omega)).toNat = Q08 l 5 := (Q0o (by omega)).symm
 have y5 := Q17 l 5
 have e6 : (l[6]'(by omega)).toNat = Q08 l 6 := (Q0o (by omega)).symm
 have y6 := Q17 l 6
 have e7 : (l[7]'(by omega)).toNat = Q08 l 7 := (Q0o (by omega)).symm
 have y7 := Q17 l 7
 refine wp_skip ?_
 refine es ?_
 refine sq ?_
 refine Q04 129 [[(0, none)], [(10, some 0)], [(11, some 1)], [(12, some 2)], [(13, some 3)]] [?b10_0, ?b10_1, ?b10_2, ?b10_3, ?b10_4] Q07 hr ?t10 ?o10 ?_
 case o10 =>
  apply oc0; intro A W hx hf
  exact Q01 (a0 := a4) (r0 hf)
  apply oc0; intro A W hx hf
  exact Q0e (0) tu22 Q0i (p2 s0 e_w hx (q0 ?b10_0 A W 10 hf)) (ec A (.int .i64 0)) (by first | omega | decide | (simp; done) | (simp; omega))
  apply oc0; intro A W hx hf
  exact Q0q tu5 rfl (q0 ?b10_1 A W 11 hf)
  apply oc0; intro A W hx hf
  exact Q30 (by decide) (q0 ?b10_2 A W 12 hf) (ec A (.int .u8 16))
  apply oc0; intro A W hx hf
  exact Q2h (q0 ?b10_3 A W 13 hf) (ec A (.int .u8 6))
  exact onn
 case t10 => exact inferInstance
 clear hr; intro a11 w11 x hr hd hs
 revert s2; revert s0; refine kp2 hs rfl ?_; intro s0 s2
 clear s8
 have s14 := fa ?b10_4 a11 w11 14 (hd 4 14 rfl)
 replace e_w := e_w.trans x
 replace e_w2 := e_w2.trans x; clear hd hs x
 refine et ?_
 refine wp_cond_split (show _ = _ from s14) (fun hv => ?_) (fun hv => ?_)
 ·
  have hv : Q08 l 0 / 16 ≠ 6 := Qp3 e0 hv
  have hrd : Q12 l = (six0, 3) := by unfold Q12; rw [if_neg hl, if_pos hv]
  refine sq ?_
  refine Q05 (l := [_]) (rest := [_, _]) 129 [[]] [?b13_0] hr ?t13 ?o13 ?_
  case o13 =>
   apply oc0; intro A W hx hf
   exact Q0x Q4p
   exact onn
  case t13 => exact inferInstance
  clear hr; intro a14 w14 x hr hd hs
  revert s2; refine kp1 hs rfl ?_; intro s2
  clear s0 s14
  have s15 := fa ?b13_0 a14 w14 15 (hd 0 15 rfl)
  replace e_w := e_w.trans x
  replace e_w2 := e_w2.trans x; clear hd hs x
  have z15 := PxS.lt (Q00 e_w2 s2)
  have l15 := (show (g2_2 = 0 ∨ w.heap.size < g2_2) ∧ True from ⟨by omega, trivial⟩)
  refine Q0b hr Q23 (Q00 e_w2 s2) s15 (by exact Q3x Q33) (by exact Q2x) rfl ?_; clear hr; intro a15 w15 hc hu hr hs
  have hb : Below w.heap.size w14 w15 := hc.below e_w.size l15.1
  revert s2; refine kp1 hs rfl ?_; intro s2
  clear s15
  replace s2 := hu _ _ _ (Q00 e_w2 s2)
  try simp only [List.set_cons_zero, List.set_cons_succ, Q1h] at s2
  replace e_w := e_w.below (Nat.le_refl _) hb
  clear e_w2
  clear hu hs hc hb
  refine Q10 hr (Q06) inferInstance ?_; clear hr; intro a16 w16 x hr hd hs
  revert s2; refine kp1 hs rfl ?_; intro s2
  have s3 := hd 3 rfl (by decide)
  replace e_w := e_w.trans x
  have e_w15 := x; clear hd hs x
  refine wpList_nil ?_
  refine et ?_
  refine wp_ret ?_
  refine Q0d ?_
  refine Q0c Try.results25 hr tu62 rfl Q23 (Q00 e_w15 s2) e_w ?_
  (rw [hrd]; exact ⟨_, _, rfl, rfl, s3⟩)
 have hv : ¬ Q08 l 0 / 16 ≠ 6 := Qmr e0 hv
 refine wp_skip ?_
 refine es ?_
 refine Q1l Q07 (fun w17 x => ?_)
 show wpAny _ _ _ _ 26 _ _ _
 replace e_w := e_w.trans x
 replace e_w2 := e_w2.trans x
 have e_w11 := x
 clear x
 refine Q4n (l := [_, _, _, _, _, _, _, _, _, _, _, _, _, _, _, _, _, _, _, _, _, _, _, _, _, _]) 129 _ [false, false, false, false, false, false, false, false, false, false, false, false, false, false, false, false, false, false, false, false, false, false, false, false, false, true] [25] [[(0, none)], [(16, some 0)], [(17, some 1)], [(18, some 2)], [(19, some 3)], [(20, some 4)], [(0, none)], [(22, some 6)], [(23, some 7)], [(24, some 8)], [(21, some 5), (25, some 9)], [(0, none)], [(27, some 11)], [(28, some 12)], [(29, some 13)], [(0, none)], [(31, some 15)], [(32, some 16)], [(33, some 17)], [(0, none)], [(35, some 19)], [(0, none)], [(37, some 21)], [(26, some 10), (30, some 14), (34, some 18), (36, some 20), (38, some 22)], [], []] [?b18_0, ?b18_1, ?b18_2, ?b18_3, ?b18_4, ?b18_5, ?b18_6, ?b18_7, ?b18_8, ?b18_9, ?b18_10, ?b18_11, ?b18_12, ?b18_13, ?b18_14, ?b18_15, ?b18_16, ?b18_17, ?b18_18, ?b18_19, ?b18_20, ?b18_21, ?b18_22, ?b18_23, ?b18_24, VP.top] (by kernel_rfl) rfl (by kernel_rfl) hr ?t18 ?o18 ?_
 case o18 =>
  apply lc0; intro A W hx hf
  exact Q01 (a0 := a11) (r0 hf)
  apply lc0; intro A W hx hf
  exact Q0e (4) tu22 Q0i (p2 s0 e_w hx (q0 ?b18_0 A W 16 hf)) (ec A (.int .i64 4)) (by first | omega | decide | (simp; done) | (simp; omega))
  apply lc0; intro A W hx hf
  exact Q0q tu5 rfl (q0 ?b18_1 A W 17 hf)
  apply lc0; intro A W hx hf
  exact Q1c tu5 tu3 (by decide) (q0 ?b18_2 A W 18 hf)
  apply lc0; intro A W hx hf
  exact Q2p (ec A (.int .i64 256)) (q0 ?b18_3 A W 19 hf) (by omega)
  apply lc0; intro A W hx hf
  exact Q0h (ec A (.int .i64 40)) (q0 ?b18_4 A W 20 hf) (by omega)
  apply lc0; intro A W hx hf
  exact Q01 (a0 := a11) (r0 hf)
  apply lc0; intro A W hx hf
  exact Q0e (5) tu22 Q0i (p2 s0 e_w hx (q0 ?b18_6 A W 22 hf)) (ec A (.int .i64 5)) (by first | omega | decide | (simp; done) | (simp; omega))
  apply lc0; intro A W hx hf
  exact Q0q tu5 rfl (q0 ?b18_7 A W 23 hf)
  apply lc0; intro A W hx hf
  exact Q1c tu5 tu3 (by decide) (q0 ?b18_8 A W 24 hf)
  apply lc0; intro A W hx hf
  exact Q0h (q0 ?b18_5 A W 21 hf) (q1 ?b18_9 A W 25 hf) (by omega)
  apply lc0; intro A W hx hf
  exact Q01 (a0 := a11) (r0 hf)
  apply lc0; intro A W hx hf
  exact Q0e (6) tu22 Q0i (p2 s0 e_w hx (q0 ?b18_11 A W 27 hf)) (ec A (.int .i64 6)) (by first | omega | decide | (simp; done) | (simp; omega))
  apply lc0; intro A W hx hf
  exact Q0q tu5 rfl (q0 ?b18_12 A W 28 hf)
  apply lc0; intro A W hx hf
  exact Q1c tu5 tu3 (by decide) (q0 ?b18_13 A W 29 hf)
  apply lc0; intro A W hx hf
  exact Q01 (a0 := a11) (r0 hf)
  apply lc0; intro A W hx hf
  exact Q0e (7) tu22 Q0i (p2 s0 e_w hx (q0 ?b18_15 A W 31 hf)) (ec A (.int .i64 7)) (by first | omega | decide | (simp; done) | (simp; omega))
  apply lc0; intro A W hx hf
  exact Q0q tu5 rfl (q0 ?b18_16 A W 32 hf)
  apply lc0; intro A W hx hf
  exact Q1c tu5 tu3 (by decide) (q0 ?b18_17 A W 33 hf)
  apply lc0; intro A W hx hf
  exact Q01 (a0 := a11) (r0 hf)
  apply lc0; intro A W hx hf
  exact Q0t Qlo (Qfr (p2 s0 e_w hx (q0 ?b18_19 A W 35 hf)) (show Is (.int .i64 8) (A.eval (.const (.int .i64 8))) _ from rfl) (by decide) (by first | omega | (show 24 ≤ _; omega) | (show 40 ≤ _; omega)))
  apply lc0; intro A W hx hf
  exact Q01 (a0 := a11) (r0 hf)
  apply lc0; intro A W hx hf
  exact Q0t Qlo (Qfr (p2 s0 e_w hx (q0 ?b18_21 A W 37 hf)) (show Is (.int .i64 24) (A.eval (.const (.int .i64 24))) _ from rfl) (by decide) (by first | omega | (show 24 ≤ _; omega) | (show 40 ≤ _; omega)))
  apply lc0; intro A W hx hf
  exact Q15 [(0, (.const (.int .i64 40))), (1, (.tmp 26)), (5, (.tmp 30)), (2, (.tmp 34)), (6, (.tmp 36)), (7, (.tmp 38))] [(0, _), (1, _), (5, _), (2, _), (6, _), (7, _)] Qmb rfl (PartsC.one (ec A (.int .i64 40)) rfl (PartsC.one (q0 ?b18_10 A W 26 hf) rfl (PartsC.one (q1 ?b18_14 A W 30 hf) rfl (PartsC.one (q2 ?b18_18 A W 34 hf) rfl (PartsC.agg (q3 ?b18_20 A W 36 hf) (PartsC.agg (q4 ?b18_22 A W 38 hf) (PartsC.nil))))))) (by simp [Q3h (Q40 (l := l) (i := 8) (by omega)), Q3h (Q40 (l := l) (i := 24) (by omega))])
  apply lc0; intro A W hx hf
  exact Q0v (Q1h six0) [1, 1, 1, 1, 1, 1, 1, 16, 1, 16] Q83 (by rfl) (by rfl) hx.size
  refine lcs ?_
  exact lcn
 case t18 => repeat (first | exact Q8w | refine Q7a ?_)
 clear hr; intro a19 w19 x hr hd hs
 have z_w_w17 := e_w.size
 have z_w2_w17 := e_w2.size
 have z_w11_w17 := e_w11.size
 have l19_2 := PxS.lt (Q00 e_w2 s2)
 have u16 := mv s0 (fa ?b18_0 a19 w19 16 (hd 0 16 rfl rfl))
 have u22 := mv s0 (fa ?b18_6 a19 w19 22 (hd 6 22 rfl rfl))
 have u27 := mv s0 (fa ?b18_11 a19 w19 27 (hd 11 27 rfl rfl))
 have u31 := mv s0 (fa ?b18_15 a19 w19 31 (hd 15 31 rfl rfl))
 have u35 := mv s0 (fa ?b18_19 a19 w19 35 (hd 19 35 rfl rfl))
 have u37 := mv s0 (fa ?b18_21 a19 w19 37 (hd 21 37 rfl rfl))
 revert s2; revert s0; refine kp2 hs rfl ?_; intro s0 s2
 clear s14
 have s16 := u16; clear u16
 have s22 := u22; clear u22
 have s27 := u27; clear u27
 have s31 := u31; clear u31
 have s35 := u35; clear u35
 have s37 := u37; clear u37
 have s17 := fa ?b18_1 a19 w19 17 (hd 1 17 rfl rfl)
 have s18 := fa ?b18_2 a19 w19 18 (hd 2 18 rfl rfl)
 have s19 := fa ?b18_3 a19 w19 19 (hd 3 19 rfl rfl)
 have s20 := fa ?b18_4 a19 w19 20 (hd 4 20 rfl rfl)
 have s21 := fa ?b18_5 a19 w19 21 (hd 5 21 rfl rfl)
 have s23 := fa ?b18_7 a19 w19 23 (hd 7 23 rfl rfl)
 have s24 := fa ?b18_8 a19 w19 24 (hd 8 24 rfl rfl)
 have s25 := fa ?b18_9 a19 w19 25 (hd 9 25 rfl rfl)
 have s26 := fa ?b18_10 a19 w19 26 (hd 10 26 rfl rfl)
 have s28 := fa ?b18_12 a19 w19 28 (hd 12 28 rfl rfl)
 have s29 := fa ?b18_13 a19 w19 29 (hd 13 29 rfl rfl)
 have s30 := fa ?b18_14 a19 w19 30 (hd 14 30 rfl rfl)
 have s32 := fa ?b18_16 a19 w19 32 (hd 16 32 rfl rfl)
 have s33 := fa ?b18_17 a19 w19 33 (hd 17 33 rfl rfl)
 have s34 := fa ?b18_18 a19 w19 34 (hd 18 34 rfl rfl)
 have s36 := fa ?b18_20 a19 w19 36 (hd 20 36 rfl rfl)
 have s38 := fa ?b18_22 a19 w19 38 (hd 22 38 rfl rfl)
 have s39 := fa ?b18_23 a19 w19 39 (hd 23 39 rfl rfl)
 have s4 := fa ?b18_24 a19 w19 4 (hd 24 4 rfl rfl)
 obtain ⟨g19_4, q19_4⟩ := PxN.at s4; clear s4; have n19_4 := PxS.lt q19_4
 replace q19_4 := PxS.mono q19_4 e_w.size
 have s4 := q19_4; clear q19_4
 replace e_w := e_w.trans x
 replace e_w2 := e_w2.trans x
 clear e_w11; clear hd hs x
 show wpList _ _ _ [_] _ _
 have z20 := PxS.lt s4
 have l20 := (show (g19_4 = 0 ∨ w.heap.size < g19_4) ∧ True from ⟨by omega, trivial⟩)
 have l20_2 := PxS.lt (Q00 e_w2 s2)
 refine Q19 (Q1h ⟨40, 40 + Q0a l 4, Q08 l 7, false, 0, Q08 l 6, adr6 l 8, adr6 l 24⟩) hr Q23 s4 (Is.conv s39 (show _ = Value.agg (Q1h ⟨40, 40 + Q0a l 4, Q08 l 7, false, 0, Q08 l 6, adr6 l 8, adr6 l 24⟩).flatten.toArray from by rw [Q5v, ← e6, ← e7, ← rtot e4 e5]; rfl)) (by exact Q5g ⟨Q40 (by omega), Q40 (by omega)⟩) (by rw [Q5v]; exact Q2x) rfl ?_; clear hr; intro a20 w20 hc hu hr hs
 have hb : Below w.heap.size w19 w20 := hc.below e_w.size l20.1
 revert s4; revert s2; revert s0; refine kp3 hs rfl ?_; intro s0 s2 s4
 clear s16 s22 s27 s31 s35 s37 s17 s18 s19 s20 s21 s23 s24 s25 s26 s28 s29 s30 s32 s33 s34 s36 s38 s39
 replace s2 := PxS.other (Q00 e_w2 s2) hc (by omega)
 replace s4 := hu _ _ _ s4
 try simp only [List.set_cons_zero, List.set_cons_succ, Q1h] at s4
 replace e_w := e_w.below (Nat.le_refl _) hb
 clear e_w2
 clear hu hs hc hb
 refine wpList_nil ?_
 refine es ?_
 refine sq ?_
 refine Q04 129 [[(4, none)], [(40, some 0)], [(0, none)], [(42, some 2)], [(41, some 1), (43, some 3)]] [?b21_0, ?b21_1, ?b21_2, ?b21_3, ?b21_4] Q07 hr ?t21 ?o21 ?_
 case o21 =>
  apply oc0; intro A W hx hf
  exact Q02 1 tu62 (k := 1) rfl Q0k rfl (o1 s4 hx (r0 hf)) rfl
  apply oc0; intro A W hx hf
  exact Q09 tu3 rfl (q0 ?b21_0 A W 40 hf) rfl
  apply oc0; intro A W hx hf
  exact Q01 (a0 := a20) (r0 hf)
  apply oc0; intro A W hx hf
  exact Q0u tu22 (p2 s0 e_w hx (q0 ?b21_2 A W 42 hf))
  apply oc0; intro A W hx hf
  exact Q4l (q0 ?b21_1 A W 41 hf) (q1 ?b21_3 A W 43 hf)
  exact onn
 case t21 => exact inferInstance
 clear hr; intro a22 w22 x hr hd hs
 revert s4; revert s2; revert s0; refine kp3 hs rfl ?_; intro s0 s2 s4
 have s44 := fa ?b21_4 a22 w22 44 (hd 4 44 rfl)
 replace e_w := e_w.trans x
 have e_w20 := x; clear hd hs x
 refine et ?_
 refine wp_cond_split (show _ = _ from s44) (fun ht => ?_) (fun ht => ?_)
 ·
  have ht : 40 + Q0a l 4 > (l.length : Int) := by simpa using ht
  have hrd : Q12 l = (six0, 2) := by unfold Q12; rw [if_neg hl, if_neg hv, if_pos ht]
  refine sq ?_
  refine Q05 (l := [_]) (rest := [_, _]) 129 [[]] [?b24_0] hr ?t24 ?o24 ?_
  case o24 =>
   apply oc0; intro A W hx hf
   exact Q0x Q4p
   exact onn
  case t24 => exact inferInstance
  clear hr; intro a25 w25 x hr hd hs
  revert s2; refine kp1 hs rfl ?_; intro s2
  clear s0 s4 s44
  have s45 := fa ?b24_0 a25 w25 45 (hd 0 45 rfl)
  replace e_w := e_w.trans x
  replace e_w20 := e_w20.trans x; clear hd hs x
  have z26 := PxS.lt (Q00 e_w20 s2)
  have l26 := (show (g2_2 = 0 ∨ w.heap.size < g2_2) ∧ True from ⟨by omega, trivial⟩)
  refine Q0b hr Q23 (Q00 e_w20 s2) s45 (by exact Q3x Q33) (by exact Q2x) rfl ?_; clear hr; intro a26 w26 hc hu hr hs
  have hb : Below w.heap.size w25 w26 := hc.below e_w.size l26.1
  revert s2; refine kp1 hs rfl ?_; intro s2
  clear s45
  replace s2 := hu _ _ _ (Q00 e_w20 s2)
  try simp only [List.set_cons_zero, List.set_cons_succ, Q1h] at s2
  replace e_w := e_w.below (Nat.le_refl _) hb
  clear e_w20
  clear hu hs hc hb
  refine Q10 hr (Q06) inferInstance ?_; clear hr; intro a27 w27 x hr hd hs
  revert s2; refine kp1 hs rfl ?_; intro s2
  have s3 := hd 3 rfl (by decide)
  replace e_w := e_w.trans x
  have e_w26 := x; clear hd hs x
  refine wpList_nil ?_
  refine et ?_
  refine wp_ret ?_
  refine Q0d ?_
  refine Q0c Try.results25 hr tu62 rfl Q23 (Q00 e_w26 s2) e_w ?_
  (rw [hrd]; exact ⟨_, _, rfl, rfl, s3⟩)
 have ht : ¬ 40 + Q0a l 4 > (l.length : Int) := by simpa using ht
 refine wp_skip ?_
 refine es ?_
 refine wp_block ?_
 refine Q11 (fun n A W => ∃ (kk zn : Nat) (fr : Bool) (pr : Int), n = kk ∧ Fr 129 A ∧ Same Qd4 a22 A ∧ Ext w W ∧ (kk ≤ 8) ∧ (40 ≤ zn) ∧ ((zn : Int) ≤ 40 + Q0a l 4) ∧ (Q12 l = Q47 (Q5o l) kk ((l.take (40 + Q0a l 4).toNat).drop zn) (zn : Int) fr pr) ∧ (PxS g2_2 w.heap.size [40] [(sixS six0).flatten] 0) (A.eval (.tmp 2)) W ∧ (PxS g19_4 w.heap.size [1, 1, 1, 1, 1, 1, 1, 16, 1, 16] (Q1h ⟨(zn : Int), 40 + Q0a l 4, Q08 l 7, fr, 8 - (kk : Int), pr, adr6 l 8, adr6 l 24⟩) 0) (A.eval (.tmp 4)) W) ?start28 ?_
 case start28 =>
  refine ⟨_, 8, 40, false, (Q08 l 6), rfl, hr, Same.rfl, e_w, (by omega), (by omega), (by omega), (by unfold Q12; rw [if_neg hl, if_neg hv, if_neg ht]; rfl), ?_, ?_⟩
  · exact (Q00 e_w20 s2)
  · exact (Q00 e_w20 s4)
 intro n28 a28 w28 hI
 clear e_w
 clear e_w20
 clear hr; obtain ⟨kk, zn, fr, pr, hn28, hr, hs, e_w, hk, hz40, hzT, hsr, u2, u4⟩ := hI
 revert s0; refine kp1 hs rfl ?_; intro s0
 clear s2 s4 s44
 have s2 := u2; clear u2
 have s4 := u4; clear u4
 have m28 := hs; clear hs
 refine sq ?_
 refine sq ?_
 refine Q04 129 [[(4, none)], [(46, some 0)], [(47, some 1)], [(48, some 2)], [(4, none), (49, some 3)], [(50, some 4), (49, some 3)], [(51, some 5), (49, some 3)], [(49, some 3), (52, some 6)]] [?b29_0, ?b29_1, ?b29_2, ?b29_2, ?b29_4, ?b29_5, ?b29_6, ?b29_7] Q07 hr ?t29 ?o29 ?_
 case o29 =>
  apply oc0; intro A W hx hf
  exact Q02 5 tu62 (k := 5) rfl Q0k rfl (o1 s4 hx (r0 hf)) rfl
  apply oc0; intro A W hx hf
  exact Q09 tu3 rfl (q0 ?b29_0 A W 46 hf) rfl
  apply oc0; intro A W hx hf
  exact Q1d Qod (Qn4 (q0 ?b29_1 A W 47 hf))
  apply oc0; intro A W hx hf
  exact Q0p (q0 ?b29_2 A W 48 hf)
  refine ocg 49 ?_ (fun A W hx hf => ?_) ?_
  rfl
  exact gd_t (q1 ?b29_2 A W 49 hf) (fun hc => Q02 3 tu62 (k := 3) rfl Q4o rfl (o1 s4 hx (r0 hf)) rfl)
  refine ocg 49 ?_ (fun A W hx hf => ?_) ?_
  rfl
  exact gd_t (q1 ?b29_2 A W 49 hf) (fun hc => Q09 tu4 rfl (G.get (q0 ?b29_4 A W 50 hf) hc) rfl)
  refine ocg 49 ?_ (fun A W hx hf => ?_) ?_
  rfl
  exact gd_t (q1 ?b29_2 A W 49 hf) (fun hc => Q42 (G.get (q0 ?b29_5 A W 51 hf) hc))
  apply oc0; intro A W hx hf
  exact Q2s (q0 ?b29_2 A W 49 hf) (q1 ?b29_6 A W 52 hf)
  exact onn
 case t29 => exact inferInstance
 clear hr; intro a30 w30 x hr hd hs
 revert s4; revert s2; revert s0; refine kp3 hs rfl ?_; intro s0 s2 s4
 have s53 := fa ?b29_7 a30 w30 53 (hd 7 53 rfl)
 replace e_w := e_w.trans x
 have e_w28 := x
 replace m28 := m28.tr hs rfl; clear hd hs x
 refine et ?_
 refine wp_cond_split (show _ = _ from s53) (fun hgo => ?_) (fun hgo => ?_)
 ·
  have hgo := Qmq hgo
  have hext := Qdr hgo
  have hfr0 : fr = false := Qkq hgo
  refine wp_skip ?_
  refine et ?_
  refine wp_block ?_
  refine sq ?_
  refine sq ?_
  refine Q04 129 [[(4, none)], [(54, some 0)], [(55, some 1)]] [?b32_0, ?b32_1, ?b32_2] Q07 hr ?t32 ?o32 ?_
  case o32 =>
   apply oc0; intro A W hx hf
   exact Q02 4 tu62 (k := 4) rfl Q0k rfl (o2 s4 e_w28 hx (r0 hf)) rfl
   apply oc0; intro A W hx hf
   exact Q09 tu3 rfl (q0 ?b32_0 A W 54 hf) rfl
   apply oc0; intro A W hx hf
   exact Q1f (q0 ?b32_1 A W 55 hf) (ec A (.int .i64 8))
   exact onn
  case t32 => exact inferInstance
  clear hr; intro a33 w33 x hr hd hs
  revert s4; revert s2; revert s0; refine kp3 hs rfl ?_; intro s0 s2 s4
  clear s53
  have s56 := fa ?b32_2 a33 w33 56 (hd 2 56 rfl)
  replace e_w := e_w.trans x
  replace e_w28 := e_w28.trans x
  replace m28 := m28.tr hs rfl; clear hd hs x
  refine et ?_
  refine wp_cond_split (show _ = _ from s56) (fun hk8 => ?_) (fun hk8 => ?_)
  ·
   have hk8 : kk = 0 := by simp at hk8; omega
   rw [hk8] at hsr
   have hrd := hsr.trans (Q5c hgo)
   refine sq ?_
   refine Q05 (l := [_]) (rest := [_, _]) 129 [[]] [?b35_0] hr ?t35 ?o35 ?_
   case o35 =>
    apply oc0; intro A W hx hf
    exact Q0x Q4p
    exact onn
   case t35 => exact inferInstance
   clear hr; intro a36 w36 x hr hd hs
   revert s2; refine kp1 hs rfl ?_; intro s2
   clear s0 s4 s56
   have s57 := fa ?b35_0 a36 w36 57 (hd 0 57 rfl)
   replace e_w := e_w.trans x
   replace e_w28 := e_w28.trans x
   replace m28 := m28.tr hs rfl; clear hd hs x
   have z37 := PxS.lt (Q00 e_w28 s2)
   have l37 := (show (g2_2 = 0 ∨ w.heap.size < g2_2) ∧ True from ⟨by omega, trivial⟩)
   refine Q0b hr Q23 (Q00 e_w28 s2) s57 (by exact Q3x Q33) (by exact Q2x) rfl ?_; clear hr; intro a37 w37 hc hu hr hs
   have hb : Below w.heap.size w36 w37 := hc.below e_w.size l37.1
   revert s2; refine kp1 hs rfl ?_; intro s2
   clear s57
   replace s2 := hu _ _ _ (Q00 e_w28 s2)
   try simp only [List.set_cons_zero, List.set_cons_succ, Q1h] at s2
   replace e_w := e_w.below (Nat.le_refl _) hb
   clear e_w28
   replace m28 := m28.tr hs rfl
   clear hu hs hc hb
   refine Q10 hr (Q06) inferInstance ?_; clear hr; intro a38 w38 x hr hd hs
   revert s2; refine kp1 hs rfl ?_; intro s2
   have s3 := hd 3 rfl (by decide)
   replace e_w := e_w.trans x
   have e_w37 := x
   replace m28 := m28.tr hs rfl; clear hd hs x
   refine wpList_nil ?_
   refine et ?_
   refine wp_ret ?_
   refine Q0d ?_
   refine Q1i ?_
   refine Q0d ?_
   refine Q1i ?_
   refine Q0d ?_
   refine Q0c Try.results25 hr tu62 rfl Q23 (Q00 e_w37 s2) e_w ?_
   (rw [hrd]; exact ⟨_, _, rfl, rfl, s3⟩)
  have hk8 : kk ≠ 0 := by simp at hk8; omega
  obtain ⟨kq, hkq⟩ : ∃ q, kk = q + 1 := ⟨kk - 1, by omega⟩
  rw [hkq] at hsr
  obtain ⟨R, hRd⟩ : ∃ R, R = (l.take (40 + Q0a l 4).toNat).drop zn := ⟨_, rfl⟩
  rw [← hRd] at hsr
  have hRl : (R.length : Int) = 40 + Q0a l 4 - (zn : Int) := by rw [hRd]; simp; omega
  have b0 := Q17 R 0
  have b1 := Q17 R 1
  have hge := Qb4 hext b1.1
  have hle := Qfp (p := pr) b1
  refine wp_skip ?_
  refine es ?_
  refine sq ?_
  refine Q04 129 [[(4, none)], [(58, some 0)], [(4, none)], [(60, some 2)], [(59, some 1), (61, some 3)], [(62, some 4)]] [?b39_0, ?b39_1, ?b39_2, ?b39_3, ?b39_4, ?b39_5] Q07 hr ?t39 ?o39 ?_
  case o39 =>
   apply oc0; intro A W hx hf
   exact Q02 1 tu62 (k := 1) rfl Q0k rfl (o2 s4 e_w28 hx (r0 hf)) rfl
   apply oc0; intro A W hx hf
   exact Q09 tu3 rfl (q0 ?b39_0 A W 58 hf) rfl
   apply oc0; intro A W hx hf
   exact Q02 0 tu62 (k := 0) rfl Q0k rfl (o2 s4 e_w28 hx (r0 hf)) rfl
   apply oc0; intro A W hx hf
   exact Q09 tu3 rfl (q0 ?b39_2 A W 60 hf) rfl
   apply oc0; intro A W hx hf
   exact Q55 (q0 ?b39_1 A W 59 hf) (q1 ?b39_3 A W 61 hf) (by show (-9223372036854775808 : Int) ≤ (40 + Q0a l 4) - (zn : Int) ∧ (40 + Q0a l 4) - (zn : Int) ≤ (9223372036854775807 : Int); omega)
   apply oc0; intro A W hx hf
   exact Q1e (q0 ?b39_4 A W 62 hf) (ec A (.int .i64 8))
   exact onn
  case t39 => exact inferInstance
  clear hr; intro a40 w40 x hr hd hs
  revert s4; revert s2; revert s0; refine kp3 hs rfl ?_; intro s0 s2 s4
  clear s56
  have s63 := fa ?b39_5 a40 w40 63 (hd 5 63 rfl)
  replace e_w := e_w.trans x
  replace e_w28 := e_w28.trans x
  replace m28 := m28.tr hs rfl; clear hd hs x
  refine et ?_
  refine wp_cond_split (show _ = _ from s63) (fun h8 => ?_) (fun h8 => ?_)
  ·
   have h8 : 40 + Q0a l 4 - (zn : Int) < 8 := of_decide_eq_true h8
   have hrd := hsr.trans (Q5d hgo (.inl (by omega)))
   refine sq ?_
   refine Q05 (l := [_]) (rest := [_, _]) 129 [[]] [?b42_0] hr ?t42 ?o42 ?_
   case o42 =>
    apply oc0; intro A W hx hf
    exact Q0x Q4p
    exact onn
   case t42 => exact inferInstance
   clear hr; intro a43 w43 x hr hd hs
   revert s2; refine kp1 hs rfl ?_; intro s2
   clear s0 s4 s63
   have s64 := fa ?b42_0 a43 w43 64 (hd 0 64 rfl)
   replace e_w := e_w.trans x
   replace e_w28 := e_w28.trans x
   replace m28 := m28.tr hs rfl; clear hd hs x
   have z44 := PxS.lt (Q00 e_w28 s2)
   have l44 := (show (g2_2 = 0 ∨ w.heap.size < g2_2) ∧ True from ⟨by omega, trivial⟩)
   refine Q0b hr Q23 (Q00 e_w28 s2) s64 (by exact Q3x Q33) (by exact Q2x) rfl ?_; clear hr; intro a44 w44 hc hu hr hs
   have hb : Below w.heap.size w43 w44 := hc.below e_w.size l44.1
   revert s2; refine kp1 hs rfl ?_; intro s2
   clear s64
   replace s2 := hu _ _ _ (Q00 e_w28 s2)
   try simp only [List.set_cons_zero, List.set_cons_succ, Q1h] at s2
   replace e_w := e_w.below (Nat.le_refl _) hb
   clear e_w28
   replace m28 := m28.tr hs rfl
   clear hu hs hc hb
   refine Q10 hr (Q06) inferInstance ?_; clear hr; intro a45 w45 x hr hd hs
   revert s2; refine kp1 hs rfl ?_; intro s2
   have s3 := hd 3 rfl (by decide)
   replace e_w := e_w.trans x
   have e_w44 := x
   replace m28 := m28.tr hs rfl; clear hd hs x
   refine wpList_nil ?_
   refine et ?_
   refine wp_ret ?_
   refine Q0d ?_
   refine Q1i ?_
   refine Q0d ?_
   refine Q1i ?_
   refine Q0d ?_
   refine Q0c Try.results25 hr tu62 rfl Q23 (Q00 e_w44 s2) e_w ?_
   (rw [hrd]; exact ⟨_, _, rfl, rfl, s3⟩)
  have h8 : ¬ 40 + Q0a l 4 - (zn : Int) < 8 := of_decide_eq_false h8
  have hbR : ∀ j, zn + j < (40 + Q0a l 4).toNat → Q08 R j = Q08 l (zn + j) := fun j hj => hRd ▸ Qe1 hj
  have e10 : ((l[zn + 0]'(by omega)).toNat : Int) = Q08 R 0 := (Q0o (by omega)).symm.trans (hbR 0 (by omega)).symm
  have e12 : ((l[zn + 2]'(by omega)).toNat : Int) = Q08 R 2 := (Q0o (by omega)).symm.trans (hbR 2 (by omega)).symm
  have e13 : ((l[zn + 3]'(by omega)).toNat : Int) = Q08 R 3 := (Q0o (by omega)).symm.trans (hbR 3 (by omega)).symm
  have e11 : Q08 l (zn + 1) = Q08 R 1 := (hbR 1 (by omega)).symm
  refine wp_skip ?_
  refine es ?_
  refine Q04 129 [[(4, none)], [(65, some 0)], [(0, none)], [(4, none)], [(68, some 3)], [(66, some 1), (67, some 2), (69, some 4)], [(70, some 5)]] [?b46_0, ?b46_1, ?b46_2, ?b46_3, ?b46_4, ?b46_5, ?b46_5] Q07 hr ?t46 ?o46 ?_
  case o46 =>
   apply oc0; intro A W hx hf
   exact Q02 5 tu62 (k := 5) rfl Q0k rfl (o2 s4 e_w28 hx (r0 hf)) rfl
   apply oc0; intro A W hx hf
   exact Q09 tu3 rfl (q0 ?b46_0 A W 65 hf) rfl
   apply oc0; intro A W hx hf
   exact Q01 (a0 := a40) (r0 hf)
   apply oc0; intro A W hx hf
   exact Q02 0 tu62 (k := 0) rfl Q0k rfl (o2 s4 e_w28 hx (r0 hf)) rfl
   apply oc0; intro A W hx hf
   exact Q09 tu3 rfl (q0 ?b46_3 A W 68 hf) rfl
   apply oc0; intro A W hx hf
   exact Q26 Qoe (Qkx (q0 ?b46_1 A W 66 hf) (p2 s0 e_w hx (q1 ?b46_2 A W 67 hf)) (q2 ?b46_4 A W 69 hf) (by exact hext) (by show 0 ≤ (zn : Int); omega) (by show (zn : Int).toNat + 1 < _; omega))
   apply oc0; intro A W hx hf
   exact Q03 (q0 ?b46_5 A W 70 hf)
   exact onn
  case t46 => exact inferInstance
  clear hr; intro a47 w47 x hr hd hs
  revert s4; revert s2; revert s0; refine kp3 hs rfl ?_; intro s0 s2 s4
  clear s63
  have s5 := fa ?b46_5 a47 w47 5 (hd 6 5 rfl)
  replace e_w := e_w.trans x
  replace e_w28 := e_w28.trans x
  replace m28 := m28.tr hs rfl; clear hd hs x
  replace s5 := Is.int s5 (show Q2c pr (Q08 l (zn + 1)) = Q2c pr (Q08 R 1) from by rw [e11])
  refine es ?_
  refine sq ?_
  refine Q04 129 [[(4, none)], [(71, some 0)], [(4, none)], [(73, some 2)], [(72, some 1), (74, some 3)], [(5, none)], [(75, some 4), (76, some 5)]] [?b48_0, ?b48_1, ?b48_2, ?b48_3, ?b48_4, ?b48_5, ?b48_6] Q07 hr ?t48 ?o48 ?_
  case o48 =>
   apply oc0; intro A W hx hf
   exact Q02 1 tu62 (k := 1) rfl Q0k rfl (o2 s4 e_w28 hx (r0 hf)) rfl
   apply oc0; intro A W hx hf
   exact Q09 tu3 rfl (q0 ?b48_0 A W 71 hf) rfl
   apply oc0; intro A W hx hf
   exact Q02 0 tu62 (k := 0) rfl Q0k rfl (o2 s4 e_w28 hx (r0 hf)) rfl
   apply oc0; intro A W hx hf
   exact Q09 tu3 rfl (q0 ?b48_2 A W 73 hf) rfl
   apply oc0; intro A W hx hf
   exact Q55 (q0 ?b48_1 A W 72 hf) (q1 ?b48_3 A W 74 hf) (by show (-9223372036854775808 : Int) ≤ (40 + Q0a l 4) - (zn : Int) ∧ (40 + Q0a l 4) - (zn : Int) ≤ (9223372036854775807 : Int); omega)
   apply oc0; intro A W hx hf
   exact Q01 (a0 := a47) (r0 hf)
   apply oc0; intro A W hx hf
   exact Q1e (q0 ?b48_4 A W 75 hf) (p1 s5 hx (q1 ?b48_5 A W 76 hf))
   exact onn
  case t48 => exact inferInstance
  clear hr; intro a49 w49 x hr hd hs
  revert s5; revert s4; revert s2; revert s0; refine kp4 hs rfl ?_; intro s0 s2 s4 s5
  have s77 := fa ?b48_6 a49 w49 77 (hd 6 77 rfl)
  replace e_w := e_w.trans x
  replace e_w28 := e_w28.trans x
  have e_w47 := x
  replace m28 := m28.tr hs rfl; clear hd hs x
  refine et ?_
  refine wp_cond_split (show _ = _ from s77) (fun hn9 => ?_) (fun hn9 => ?_)
  ·
   have hn9 : 40 + Q0a l 4 - (zn : Int) < Q2c pr (Q08 R 1) := of_decide_eq_true hn9
   have hrd := hsr.trans (Q5d hgo (.inr (by omega)))
   refine sq ?_
   refine Q05 (l := [_]) (rest := [_, _]) 129 [[]] [?b51_0] hr ?t51 ?o51 ?_
   case o51 =>
    apply oc0; intro A W hx hf
    exact Q0x Q4p
    exact onn
   case t51 => exact inferInstance
   clear hr; intro a52 w52 x hr hd hs
   revert s2; refine kp1 hs rfl ?_; intro s2
   clear s0 s4 s5 s77
   have s78 := fa ?b51_0 a52 w52 78 (hd 0 78 rfl)
   replace e_w := e_w.trans x
   replace e_w28 := e_w28.trans x
   clear e_w47
   replace m28 := m28.tr hs rfl; clear hd hs x
   have z53 := PxS.lt (Q00 e_w28 s2)
   have l53 := (show (g2_2 = 0 ∨ w.heap.size < g2_2) ∧ True from ⟨by omega, trivial⟩)
   refine Q0b hr Q23 (Q00 e_w28 s2) s78 (by exact Q3x Q33) (by exact Q2x) rfl ?_; clear hr; intro a53 w53 hc hu hr hs
   have hb : Below w.heap.size w52 w53 := hc.below e_w.size l53.1
   revert s2; refine kp1 hs rfl ?_; intro s2
   clear s78
   replace s2 := hu _ _ _ (Q00 e_w28 s2)
   try simp only [List.set_cons_zero, List.set_cons_succ, Q1h] at s2
   replace e_w := e_w.below (Nat.le_refl _) hb
   clear e_w28
   replace m28 := m28.tr hs rfl
   clear hu hs hc hb
   refine Q10 hr (Q06) inferInstance ?_; clear hr; intro a54 w54 x hr hd hs
   revert s2; refine kp1 hs rfl ?_; intro s2
   have s3 := hd 3 rfl (by decide)
   replace e_w := e_w.trans x
   have e_w53 := x
   replace m28 := m28.tr hs rfl; clear hd hs x
   refine wpList_nil ?_
   refine et ?_
   refine wp_ret ?_
   refine Q0d ?_
   refine Q1i ?_
   refine Q0d ?_
   refine Q1i ?_
   refine Q0d ?_
   refine Q0c Try.results25 hr tu62 rfl Q23 (Q00 e_w53 s2) e_w ?_
   (rw [hrd]; exact ⟨_, _, rfl, rfl, s3⟩)
  have hn9 : ¬ 40 + Q0a l 4 - (zn : Int) < Q2c pr (Q08 R 1) := of_decide_eq_false hn9
  replace hsr := hsr.trans (Q5e hgo (by omega))
  have hnz : ((zn + (Q2c pr (Q08 R 1)).toNat : Nat) : Int) = (zn : Int) + Q2c pr (Q08 R 1) := by omega
  refine wp_skip ?_
  refine es ?_
  refine sq ?_
  refine Q04 129 ([(4, none)] :: [(79, some 0)] :: [(80, some 1)] :: [(81, some 2)] :: [(0, none), (82, some 3)] :: [(4, none), (82, some 3)] :: [(84, some 5), (82, some 3)] :: [(85, some 6), (82, some 3)] :: [(83, some 4), (86, some 7), (82, some 3)] :: [(87, some 8), (82, some 3)] :: [(88, some 9), (82, some 3)] :: [(89, some 10), (82, some 3)] :: [(0, none), (90, some 11)] :: [(4, none), (90, some 11)] :: [(92, some 13), (90, some 11)] :: [(93, some 14), (90, some 11)] :: [(91, some 12), (94, some 15), (90, some 11)] :: [(95, some 16), (90, some 11)] :: [(96, some 17), (90, some 11)] :: [(97, some 18), (90, some 11)] :: [(90, some 11), (98, some 19), (82, some 3)] :: [(99, some 20), (82, some 3)] :: [(0, none), (100, some 21)] :: [(4, none), (100, some 21)] :: [(102, some 23), (100, some 21)] :: [(103, some 24), (100, some 21)] :: [(101, some 22), (104, some 25), (100, some 21)] :: [(105, some 26), (100, some 21)] :: [(106, some 27), (100, some 21)] :: [(107, some 28), (100, some 21)] :: [(100, some 21), (108, some 29), (82, some 3)] :: [(82, some 3), (109, some 30)] :: []) (?b55_0 :: ?b55_1 :: ?b55_2 :: ?b55_2 :: ?b55_4 :: ?b55_5 :: ?b55_6 :: ?b55_7 :: ?b55_8 :: ?b55_9 :: ?b55_10 :: ?b55_10 :: ?b55_12 :: ?b55_13 :: ?b55_14 :: ?b55_15 :: ?b55_16 :: ?b55_17 :: ?b55_18 :: ?b55_19 :: ?b55_20 :: ?b55_20 :: ?b55_22 :: ?b55_23 :: ?b55_24 :: ?b55_25 :: ?b55_26 :: ?b55_27 :: ?b55_28 :: ?b55_29 :: ?b55_30 :: ?b55_31 :: []) Q07 hr ?t55 ?o55 ?_
  case o55 =>
   apply oc0; intro A W hx hf
   exact Q02 5 tu62 (k := 5) rfl Q0k rfl (o2 s4 e_w28 hx (r0 hf)) rfl
   apply oc0; intro A W hx hf
   exact Q09 tu3 rfl (q0 ?b55_0 A W 79 hf) rfl
   apply oc0; intro A W hx hf
   exact Q1f (q0 ?b55_1 A W 80 hf) (ec A (.int .i64 44))
   apply oc0; intro A W hx hf
   exact Q0p (q0 ?b55_2 A W 81 hf)
   refine ocg 82 ?_ (fun A W hx hf => ?_) ?_
   rfl
   exact gd_t (q1 ?b55_2 A W 82 hf) (fun hc => Q01 (a0 := a49) (r0 hf))
   refine ocg 82 ?_ (fun A W hx hf => ?_) ?_
   rfl
   exact gd_t (q1 ?b55_2 A W 82 hf) (fun hc => Q02 0 tu62 (k := 0) rfl Q0k rfl (o2 s4 e_w28 hx (r0 hf)) rfl)
   refine ocg 82 ?_ (fun A W hx hf => ?_) ?_
   rfl
   exact gd_t (q1 ?b55_2 A W 82 hf) (fun hc => Q09 tu3 rfl (G.get (q0 ?b55_5 A W 84 hf) hc) rfl)
   refine ocg 82 ?_ (fun A W hx hf => ?_) ?_
   rfl
   exact gd_t (q1 ?b55_2 A W 82 hf) (fun hc => Q0h (G.get (q0 ?b55_6 A W 85 hf) hc) (ec A (.int .i64 2)) (by show (-9223372036854775808 : Int) ≤ (zn : Int) + 2 ∧ (zn : Int) + 2 ≤ (9223372036854775807 : Int); omega))
   refine ocg 82 ?_ (fun A W hx hf => ?_) ?_
   rfl
   exact gd_t (q2 ?b55_2 A W 82 hf) (fun hc => Q0e (zn + 2) tu22 Q0i (p2 s0 e_w hx (G.get (q0 ?b55_4 A W 83 hf) hc)) (Is.int (G.get (q1 ?b55_7 A W 86 hf) hc) (by show (zn : Int) + 2 = _; omega)) (by omega))
   refine ocg 82 ?_ (fun A W hx hf => ?_) ?_
   rfl
   exact gd_t (q1 ?b55_2 A W 82 hf) (fun hc => Q0q tu5 rfl (G.get (q0 ?b55_8 A W 87 hf) hc))
   refine ocg 82 ?_ (fun A W hx hf => ?_) ?_
   rfl
   exact gd_t (q1 ?b55_2 A W 82 hf) (fun hc => Q2h (G.get (q0 ?b55_9 A W 88 hf) hc) (ec A (.int .u8 0)))
   refine ocg 82 ?_ (fun A W hx hf => ?_) ?_
   rfl
   exact gd_t (q1 ?b55_2 A W 82 hf) (fun hc => Q0p (G.get (q0 ?b55_10 A W 89 hf) hc))
   refine ocg 90 ?_ (fun A W hx hf => ?_) ?_
   rfl
   exact Q4w (q1 ?b55_10 A W 90 hf) (fun hc => Q01 (a0 := a49) (r0 hf))
   refine ocg 90 ?_ (fun A W hx hf => ?_) ?_
   rfl
   exact Q4w (q1 ?b55_10 A W 90 hf) (fun hc => Q02 0 tu62 (k := 0) rfl Q0k rfl (o2 s4 e_w28 hx (r0 hf)) rfl)
   refine ocg 90 ?_ (fun A W hx hf => ?_) ?_
   rfl
   exact Q4w (q1 ?b55_10 A W 90 hf) (fun hc => Q09 tu3 rfl (G.get (q0 ?b55_13 A W 92 hf) hc) rfl)
   refine ocg 90 ?_ (fun A W hx hf => ?_) ?_
   rfl
   exact Q4w (q1 ?b55_10 A W 90 hf) (fun hc => Q0h (G.get (q0 ?b55_14 A W 93 hf) hc) (ec A (.int .i64 3)) (by show (-9223372036854775808 : Int) ≤ (zn : Int) + 3 ∧ (zn : Int) + 3 ≤ (9223372036854775807 : Int); omega))
   refine ocg 90 ?_ (fun A W hx hf => ?_) ?_
   rfl
   exact Q4w (q2 ?b55_10 A W 90 hf) (fun hc => Q0e (zn + 3) tu22 Q0i (p2 s0 e_w hx (G.get (q0 ?b55_12 A W 91 hf) hc)) (Is.int (G.get (q1 ?b55_15 A W 94 hf) hc) (by show (zn : Int) + 3 = _; omega)) (by omega))
   refine ocg 90 ?_ (fun A W hx hf => ?_) ?_
   rfl
   exact Q4w (q1 ?b55_10 A W 90 hf) (fun hc => Q0q tu5 rfl (G.get (q0 ?b55_16 A W 95 hf) hc))
   refine ocg 90 ?_ (fun A W hx hf => ?_) ?_
   rfl
   exact Q4w (q1 ?b55_10 A W 90 hf) (fun hc => Q30 (by decide) (G.get (q0 ?b55_17 A W 96 hf) hc) (ec A (.int .u8 8)))
   refine ocg 90 ?_ (fun A W hx hf => ?_) ?_
   rfl
   exact Q4w (q1 ?b55_10 A W 90 hf) (fun hc => Q2h (G.get (q0 ?b55_18 A W 97 hf) hc) (ec A (.int .u8 0)))
   refine ocg 82 ?_ (fun A W hx hf => ?_) ?_
   rfl
   exact gd_t (q2 ?b55_2 A W 82 hf) (fun hc => Q4k (G.get (q0 ?b55_10 A W 90 hf) hc) (G.strip hc (q1 ?b55_19 A W 98 hf)))
   refine ocg 82 ?_ (fun A W hx hf => ?_) ?_
   rfl
   exact gd_t (q1 ?b55_2 A W 82 hf) (fun hc => Q0p (G.get (q0 ?b55_20 A W 99 hf) hc))
   refine ocg 100 ?_ (fun A W hx hf => ?_) ?_
   rfl
   exact Q4w (q1 ?b55_20 A W 100 hf) (fun hc => Q01 (a0 := a49) (r0 hf))
   refine ocg 100 ?_ (fun A W hx hf => ?_) ?_
   rfl
   exact Q4w (q1 ?b55_20 A W 100 hf) (fun hc => Q02 0 tu62 (k := 0) rfl Q0k rfl (o2 s4 e_w28 hx (r0 hf)) rfl)
   refine ocg 100 ?_ (fun A W hx hf => ?_) ?_
   rfl
   exact Q4w (q1 ?b55_20 A W 100 hf) (fun hc => Q09 tu3 rfl (G.get (q0 ?b55_23 A W 102 hf) hc) rfl)
   refine ocg 100 ?_ (fun A W hx hf => ?_) ?_
   rfl
   exact Q4w (q1 ?b55_20 A W 100 hf) (fun hc => Q0h (G.get (q0 ?b55_24 A W 103 hf) hc) (ec A (.int .i64 3)) (by show (-9223372036854775808 : Int) ≤ (zn : Int) + 3 ∧ (zn : Int) + 3 ≤ (9223372036854775807 : Int); omega))
   refine ocg 100 ?_ (fun A W hx hf => ?_) ?_
   rfl
   exact Q4w (q2 ?b55_20 A W 100 hf) (fun hc => Q0e (zn + 3) tu22 Q0i (p2 s0 e_w hx (G.get (q0 ?b55_22 A W 101 hf) hc)) (Is.int (G.get (q1 ?b55_25 A W 104 hf) hc) (by show (zn : Int) + 3 = _; omega)) (by omega))
   refine ocg 100 ?_ (fun A W hx hf => ?_) ?_
   rfl
   exact Q4w (q1 ?b55_20 A W 100 hf) (fun hc => Q0q tu5 rfl (G.get (q0 ?b55_26 A W 105 hf) hc))
   refine ocg 100 ?_ (fun A W hx hf => ?_) ?_
   rfl
   exact Q4w (q1 ?b55_20 A W 100 hf) (fun hc => Q31 (by decide) (G.get (q0 ?b55_27 A W 106 hf) hc) (ec A (.int .u8 2)))
   refine ocg 100 ?_ (fun A W hx hf => ?_) ?_
   rfl
   exact Q4w (q1 ?b55_20 A W 100 hf) (fun hc => Q1f (G.get (q0 ?b55_28 A W 107 hf) hc) (ec A (.int .u8 1)))
   refine ocg 82 ?_ (fun A W hx hf => ?_) ?_
   rfl
   exact gd_t (q2 ?b55_2 A W 82 hf) (fun hc => Q4k (G.get (q0 ?b55_20 A W 100 hf) hc) (G.strip hc (q1 ?b55_29 A W 108 hf)))
   apply oc0; intro A W hx hf
   exact Q2s (q0 ?b55_2 A W 82 hf) (q1 ?b55_30 A W 109 hf)
   exact onn
  case t55 => repeat (first | exact Q8w | refine Q7a ?_)
  clear hr; intro a56 w56 x hr hd hs
  revert s5; revert s4; revert s2; revert s0; refine kp4 hs rfl ?_; intro s0 s2 s4 s5
  clear s77
  have s110 := fa ?b55_31 a56 w56 110 (hd 31 110 rfl)
  replace e_w := e_w.trans x
  replace e_w28 := e_w28.trans x
  replace e_w47 := e_w47.trans x
  replace m28 := m28.tr hs rfl; clear hd hs x
  refine et ?_
  refine Q2k (fun A W => Fr 129 A ∧ Same Q8l a56 A ∧ Ext w W ∧ (PxS g2_2 w.heap.size [40] [(sixS six0).flatten] 0) (A.eval (.tmp 2)) W ∧ (PxS g19_4 w.heap.size [1, 1, 1, 1, 1, 1, 1, 16, 1, 16] (Q1h ⟨(zn : Int), 40 + Q0a l 4, Q08 l 7, (pr == 44 && Q7o R), 8 - (kk : Int), pr, adr6 l 8, adr6 l 24⟩) 0) (A.eval (.tmp 4)) W) ?cut57 ?_
  case cut57 =>
   have m57 : Same Q8l a56 a56 := Same.rfl
   refine wp_cond_split (show _ = _ from s110) (fun hp9 => ?_) (fun hp9 => ?_)
   ·
    have hp9 : (pr == 44 && Q7o R) = true := by rw [← Qp2 e12 e13]; exact hp9
    refine Q05 (l := [_]) (rest := [_]) 129 [[(4, none)]] [?b59_0] hr ?t59 ?o59 ?_
    case o59 =>
     apply oc0; intro A W hx hf
     exact Q02 3 tu62 (k := 3) rfl Q4o rfl (o2 s4 e_w28 hx (r0 hf)) rfl
     exact onn
    case t59 => exact inferInstance
    clear hr; intro a60 w60 x hr hd hs
    revert s5; revert s4; revert s2; revert s0; refine kp4 hs rfl ?_; intro s0 s2 s4 s5
    clear s110
    have s111 := fa ?b59_0 a60 w60 111 (hd 0 111 rfl)
    replace e_w := e_w.trans x
    replace e_w28 := e_w28.trans x
    replace e_w47 := e_w47.trans x
    replace m28 := m28.tr hs rfl
    replace m57 := m57.tr hs rfl; clear hd hs x
    have z61 := PxS.lt s111
    have l61 := (show (g19_4 = 0 ∨ w.heap.size < g19_4) ∧ True from ⟨by omega, trivial⟩)
    have l61_2 := PxS.lt (Q00 e_w28 s2)
    refine Q1g hr Q4o s111 (ec a60 (.bool true)) (by rfl) rfl ?_; clear hr; intro a61 w61 hc hu hr hs
    have hb : Below w.heap.size w60 w61 := hc.below e_w.size l61.1
    revert s5; revert s4; revert s2; revert s0; refine kp4 hs rfl ?_; intro s0 s2 s4 s5
    clear s111
    replace s2 := PxS.other (Q00 e_w28 s2) hc (by omega)
    replace s4 := hu _ _ _ (Q00 e_w28 s4)
    try simp only [List.set_cons_zero, List.set_cons_succ, Q1h] at s4
    replace e_w := e_w.below (Nat.le_refl _) hb
    clear e_w28
    clear e_w47
    replace s5 := anyw (w2 := w61) s5
    replace m28 := m28.tr hs rfl
    replace m57 := m57.tr hs rfl
    clear hu hs hc hb
    refine wpList_nil ?_
    refine et ?_
    refine ⟨hr, m57, e_w, ?_, ?_⟩
    · exact s2
    · exact PxS.cast s4 (by first | (rw [hp9]; rfl) | (rw [hp9, hfr0]))
   have hp9 : (pr == 44 && Q7o R) = false := by rw [← Qp2 e12 e13]; exact hp9
   refine wp_skip ?_
   refine et ?_
   refine ⟨hr, m57, e_w, ?_, ?_⟩
   · exact (Q00 e_w28 s2)
   · exact PxS.cast (Q00 e_w28 s4) (by first | (rw [hp9]; rfl) | (rw [hp9, hfr0]))
  intro a57 w57 hI
  clear e_w
  clear e_w28
  clear e_w47
  clear hr; obtain ⟨hr, hs, e_w, u2, u4⟩ := hI
  revert s5; revert s0; refine kp2 hs rfl ?_; intro s0 s5
  clear s2 s4 s110
  have s2 := u2; clear u2
  have s4 := u4; clear u4
  replace s5 := anyw (w2 := w57) s5
  replace m28 := m28.tr hs rfl
  clear hs
  refine sq ?_
  refine Q05 (l := [_, _, _, _, _, _, _]) (rest := [_]) 129 [[(0, none)], [(4, none)], [(113, some 1)], [(112, some 0), (114, some 2)], [(115, some 3)], [(116, some 4)], [(4, none)]] [?b62_0, ?b62_1, ?b62_2, ?b62_3, ?b62_4, ?b62_5, ?b62_6] hr ?t62 ?o62 ?_
  case o62 =>
   apply oc0; intro A W hx hf
   exact Q01 (a0 := a57) (r0 hf)
   apply oc0; intro A W hx hf
   exact Q02 0 tu62 (k := 0) rfl Q0k rfl (o1 s4 hx (r0 hf)) rfl
   apply oc0; intro A W hx hf
   exact Q09 tu3 rfl (q0 ?b62_1 A W 113 hf) rfl
   apply oc0; intro A W hx hf
   exact Q0e (zn) tu22 Q0i (p2 s0 e_w hx (q0 ?b62_0 A W 112 hf)) (Is.int (q1 ?b62_2 A W 114 hf) (by rfl)) (by omega)
   apply oc0; intro A W hx hf
   exact Q0q tu5 rfl (q0 ?b62_3 A W 115 hf)
   apply oc0; intro A W hx hf
   exact Q1c tu5 tu3 (by decide) (q0 ?b62_4 A W 116 hf)
   apply oc0; intro A W hx hf
   exact Q02 5 tu62 (k := 5) rfl Q0k rfl (o1 s4 hx (r0 hf)) rfl
   exact onn
  case t62 => exact inferInstance
  clear hr; intro a63 w63 x hr hd hs
  revert s5; revert s4; revert s2; revert s0; refine kp4 hs rfl ?_; intro s0 s2 s4 s5
  have s117 := fa ?b62_5 a63 w63 117 (hd 5 117 rfl)
  have s118 := fa ?b62_6 a63 w63 118 (hd 6 118 rfl)
  replace e_w := e_w.trans x
  have e_w57 := x
  replace m28 := m28.tr hs rfl; clear hd hs x
  have z64 := PxS.lt s118
  have l64 := (show (g19_4 = 0 ∨ w.heap.size < g19_4) ∧ True from ⟨by omega, trivial⟩)
  have l64_2 := PxS.lt (Q00 e_w57 s2)
  refine Q1g hr Q0k s118 (Is.int s117 e10) (by rfl) rfl ?_; clear hr; intro a64 w64 hc hu hr hs
  have hb : Below w.heap.size w63 w64 := hc.below e_w.size l64.1
  revert s5; revert s4; revert s2; revert s0; refine kp4 hs rfl ?_; intro s0 s2 s4 s5
  clear s117 s118
  replace s2 := PxS.other (Q00 e_w57 s2) hc (by omega)
  replace s4 := hu _ _ _ (Q00 e_w57 s4)
  try simp only [List.set_cons_zero, List.set_cons_succ, Q1h] at s4
  replace e_w := e_w.below (Nat.le_refl _) hb
  clear e_w57
  replace s5 := anyw (w2 := w64) s5
  replace m28 := m28.tr hs rfl
  clear hu hs hc hb
  refine wpList_nil ?_
  refine es ?_
  refine Q05 (l := [_, _, _, _, _]) (rest := [_]) 129 [[(4, none)], [(119, some 0)], [(5, none)], [(120, some 1), (121, some 2)], [(4, none)]] [?b65_0, ?b65_1, ?b65_2, ?b65_3, ?b65_4] hr ?t65 ?o65 ?_
  case o65 =>
   apply oc0; intro A W hx hf
   exact Q02 0 tu62 (k := 0) rfl Q0k rfl (o1 s4 hx (r0 hf)) rfl
   apply oc0; intro A W hx hf
   exact Q09 tu3 rfl (q0 ?b65_0 A W 119 hf) rfl
   apply oc0; intro A W hx hf
   exact Q01 (a0 := a64) (r0 hf)
   apply oc0; intro A W hx hf
   exact Q0h (q0 ?b65_1 A W 120 hf) (p1 s5 hx (q1 ?b65_2 A W 121 hf)) (by omega)
   apply oc0; intro A W hx hf
   exact Q02 0 tu62 (k := 0) rfl Q0k rfl (o1 s4 hx (r0 hf)) rfl
   exact onn
  case t65 => exact inferInstance
  clear hr; intro a66 w66 x hr hd hs
  revert s4; revert s2; revert s0; refine kp3 hs rfl ?_; intro s0 s2 s4
  clear s5
  have s122 := fa ?b65_3 a66 w66 122 (hd 3 122 rfl)
  have s123 := fa ?b65_4 a66 w66 123 (hd 4 123 rfl)
  replace e_w := e_w.trans x
  have e_w64 := x
  replace m28 := m28.tr hs rfl; clear hd hs x
  have z67 := PxS.lt s123
  have l67 := (show (g19_4 = 0 ∨ w.heap.size < g19_4) ∧ True from ⟨by omega, trivial⟩)
  have l67_2 := PxS.lt (Q00 e_w64 s2)
  refine Q1g hr Q0k s123 (Is.int s122 hnz.symm) (by rfl) rfl ?_; clear hr; intro a67 w67 hc hu hr hs
  have hb : Below w.heap.size w66 w67 := hc.below e_w.size l67.1
  revert s4; revert s2; revert s0; refine kp3 hs rfl ?_; intro s0 s2 s4
  clear s122 s123
  replace s2 := PxS.other (Q00 e_w64 s2) hc (by omega)
  replace s4 := hu _ _ _ (Q00 e_w64 s4)
  try simp only [List.set_cons_zero, List.set_cons_succ, Q1h] at s4
  replace e_w := e_w.below (Nat.le_refl _) hb
  clear e_w64
  replace m28 := m28.tr hs rfl
  clear hu hs hc hb
  refine wpList_nil ?_
  refine et ?_
  refine Q05 (l := [_, _, _, _]) (rest := [_]) 129 [[(4, none)], [(124, some 0)], [(125, some 1)], [(4, none)]] [?b68_0, ?b68_1, ?b68_2, ?b68_3] hr ?t68 ?o68 ?_
  case o68 =>
   apply oc0; intro A W hx hf
   exact Q02 4 tu62 (k := 4) rfl Q0k rfl (o1 s4 hx (r0 hf)) rfl
   apply oc0; intro A W hx hf
   exact Q09 tu3 rfl (q0 ?b68_0 A W 124 hf) rfl
   apply oc0; intro A W hx hf
   exact Q0h (q0 ?b68_1 A W 125 hf) (ec A (.int .i64 1)) (by omega)
   apply oc0; intro A W hx hf
   exact Q02 4 tu62 (k := 4) rfl Q0k rfl (o1 s4 hx (r0 hf)) rfl
   exact onn
  case t68 => exact inferInstance
  clear hr; intro a69 w69 x hr hd hs
  revert s4; revert s2; revert s0; refine kp3 hs rfl ?_; intro s0 s2 s4
  have s126 := fa ?b68_2 a69 w69 126 (hd 2 126 rfl)
  have s127 := fa ?b68_3 a69 w69 127 (hd 3 127 rfl)
  replace e_w := e_w.trans x
  have e_w67 := x
  replace m28 := m28.tr hs rfl; clear hd hs x
  have z70 := PxS.lt s127
  have l70 := (show (g19_4 = 0 ∨ w.heap.size < g19_4) ∧ True from ⟨by omega, trivial⟩)
  have l70_2 := PxS.lt (Q00 e_w67 s2)
  refine Q1g hr Q0k s127 (Is.int s126 (show _ = 8 - (kq : Int) from by omega)) (by rfl) rfl ?_; clear hr; intro a70 w70 hc hu hr hs
  have hb : Below w.heap.size w69 w70 := hc.below e_w.size l70.1
  revert s4; revert s2; revert s0; refine kp3 hs rfl ?_; intro s0 s2 s4
  clear s126 s127
  replace s2 := PxS.other (Q00 e_w67 s2) hc (by omega)
  replace s4 := hu _ _ _ (Q00 e_w67 s4)
  try simp only [List.set_cons_zero, List.set_cons_succ, Q1h] at s4
  replace e_w := e_w.below (Nat.le_refl _) hb
  clear e_w67
  replace m28 := m28.tr hs rfl
  clear hu hs hc hb
  refine wpList_nil ?_
  refine Q0w ?_
  refine et ?_
  refine ⟨(fun (kk zn : Nat) (fr : Bool) (pr : Int) => kk) (kq) ((zn + (Q2c pr (Q08 R 1)).toNat)) ((pr == 44 && Q7o R)) ((Q08 R 0)), ?_, ?_⟩
  · (try dsimp only); omega
  refine ⟨kq, (zn + (Q2c pr (Q08 R 1)).toNat), (pr == 44 && Q7o R), (Q08 R 0), rfl, hr, m28, e_w, (by omega), (by omega), (by omega), (by rw [← List.drop_drop, ← hRd, hnz]; exact hsr), ?_, ?_⟩
  · exact s2
  · exact s4
 have hgo := Qj5 hgo
 have hrd := hsr.trans (Q3j hgo)
 refine wp_exit ?_
 refine Q0g ?_
 refine Q0g ?_
 refine Q1b ?_
 refine es ?_
 refine Q05 (l := [_]) (rest := [_, _]) 129 [[(4, none)]] [?b71_0] hr ?t71 ?o71 ?_
 case o71 =>
  apply oc0; intro A W hx hf
  exact Q0j 10 tu62 rfl Q23 (o2 s4 e_w28 hx (r0 hf)) rfl
  exact onn
 case t71 => exact inferInstance
 clear hr; intro a72 w72 x hr hd hs
 revert s2; refine kp1 hs rfl ?_; intro s2
 clear s0 s4 s53
 have s128 := fa ?b71_0 a72 w72 128 (hd 0 128 rfl)
 replace e_w := e_w.trans x
 replace e_w28 := e_w28.trans x; clear hd hs x
 have z73 := PxS.lt (Q00 e_w28 s2)
 have l73 := (show (g2_2 = 0 ∨ w.heap.size < g2_2) ∧ True from ⟨by omega, trivial⟩)
 refine Q0b hr Q23 (Q00 e_w28 s2) (Is.conv s128 (Qj4 (X := ⟨(zn : Int), 40 + Q0a l 4, Q08 l 7, fr, 8 - (kk : Int), pr, adr6 l 8, adr6 l 24⟩))) (by exact Q3x ⟨Q40 (by omega), Q40 (by omega)⟩) (by exact Q2x) rfl ?_; clear hr; intro a73 w73 hc hu hr hs
 have hb : Below w.heap.size w72 w73 := hc.below e_w.size l73.1
 revert s2; refine kp1 hs rfl ?_; intro s2
 clear s128
 replace s2 := hu _ _ _ (Q00 e_w28 s2)
 try simp only [List.set_cons_zero, List.set_cons_succ, Q1h] at s2
 replace e_w := e_w.below (Nat.le_refl _) hb
 clear e_w28
 clear hu hs hc hb
 refine Q10 hr (Q06) inferInstance ?_; clear hr; intro a74 w74 x hr hd hs
 revert s2; refine kp1 hs rfl ?_; intro s2
 have s3 := hd 3 rfl (by decide)
 replace e_w := e_w.trans x
 have e_w73 := x; clear hd hs x
 refine wpList_nil ?_
 refine et ?_
 refine wp_ret ?_
 refine Q0c Try.results25 hr tu62 rfl Q23 (Q00 e_w73 s2) e_w ?_
 (rw [hrd]; exact ⟨_, _, rfl, rfl, s3⟩)

end Go.Proofs.Ytlmdboaghojgiaa
