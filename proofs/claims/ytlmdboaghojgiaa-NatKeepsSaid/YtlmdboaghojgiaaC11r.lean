import Derived.Test.YtlmdboaghojgiaaC11n
import Derived.Test.YtlmdboaghojgiaaC07
import Derived.Test.YtlmdboaghojgiaaC08
import Derived.Test.YtlmdboaghojgiaaC09e
import Derived.Test.YtlmdboaghojgiaaC11
namespace Go.Proofs.Ytlmdboaghojgiaa
open Go.RowKit
set_option linter.unusedVariables false
set_option linter.unusedSimpArgs false
set_option maxRecDepth 4000
def Q7r : List Tmp := [6, 7, 8, 10, 11, 12, 13, 32, 33, 34, 35, 36, 37, 38, 39, 40, 41, 42, 43, 44, 45, 46, 47, 48, 49, 50, 51, 52, 53, 54, 55, 56, 57, 58, 59, 60, 61, 62, 63, 64, 65, 66, 67, 68, 69, 70, 71, 72, 73, 74, 75, 76, 77]
def Q7s : List Tmp := [14, 15, 89, 90, 91, 92, 93, 94, 95, 96, 97, 98]
set_option maxHeartbeats 1000000 in
theorem Qjl {x0 : Value} {w : World} {l : List UInt8} (h0 : (Bs l) x0 w) (hn9 : l.length ≤ 1000000) :
    Calls Try.prog 14 #[x0] w (Ret (Is (PktV (Q0y l))) w) := by
 have hlen := Bs.len_le h0
 obtain ⟨hs16, hd16⟩ : Qcp (pkN l).1 := Q69 _ _
 refine enter Try.func14 rfl Try.ntmps14 (k := 1) rfl (by decide) (fun a0 hr hargs => ?_)
 have s0 := sarg h0 (hargs 0 (by decide))
 clear hargs
 refine sq ?_
 refine Q04 122 [[]] [?b1_0] Q07 hr ?t1 ?o1 ?_
 case o1 =>
  apply oc0; intro A W hx hf
  exact Q0v [(pktS (give 0)).flatten] [42] Qav (by rfl) (by rfl) hx.size
  exact onn
 case t1 => exact inferInstance
 clear hr; intro a2 w2 x hr hd hs
 revert s0; refine kp1 hs rfl ?_; intro s0
 have s2 := fa ?b1_0 a2 w2 2 (hd 0 2 rfl)
 obtain ⟨g2_2, q2_2⟩ := PxN.at s2; clear s2; have n2_2 := PxS.lt q2_2
 have s2 := q2_2; clear q2_2
 have e_w := x; clear hd hs x
 refine es ?_
 refine Q05 (l := [_, _, _, _, _]) (rest := [_, _, _]) 122 [[(0, none)], [(17, some 0)], [(18, some 1)], [(16, some 2)], [(16, some 2)]] [?b3_0, ?b3_1, ?b3_1, ?b3_3, ?b3_4] hr ?t3 ?o3 ?_
 case o3 =>
  apply oc0; intro A W hx hf
  exact Q01 (a0 := a2) (r0 hf)
  apply oc0; intro A W hx hf
  exact Q1d Qo1 (Qku (p2 s0 e_w hx (q0 ?b3_0 A W 17 hf)) (by omega) hx.size)
  apply oc0; intro A W hx hf
  exact Q0p (q0 ?b3_1 A W 18 hf)
  apply oc0; intro A W hx hf
  exact Q2a (q0 ?b3_1 A W 16 hf)
  apply oc0; intro A W hx hf
  exact Q2b (q0 ?b3_1 A W 16 hf)
  exact onn
 case t3 => exact inferInstance
 clear hr; intro a4 w4 x hr hd hs
 have l4_2 := PxS.lt s2
 revert s2; revert s0; refine kp2 hs rfl ?_; intro s0 s2
 have s19 := fa ?b3_3 a4 w4 19 (hd 3 19 rfl)
 have s20 := fa ?b3_4 a4 w4 20 (hd 4 20 rfl)
 obtain ⟨sv12, s19, gL⟩ := LinkO.open s19; obtain ⟨g4_19, gL⟩ := OwnR.at gL; have n4_19 := OwnRA.lt gL
 replace gL := OwnRA.mono gL e_w.size
 replace e_w := e_w.trans x
 have e_w2 := x; clear hd hs x
 have l5_2 := PxS.lt (Q00 e_w2 s2)
 have l5_gL := OwnRA.lt gL
 refine Q10 hr (Q0v (lnkS Q43 (.slice none 0 0)) [6, 6, 1, 1, 1] Q71 (by rfl) (by rfl) (Nat.le_refl _)) inferInstance ?_; clear hr; intro a5 w5 x hr hd hs
 revert s19; revert s20; revert s2; revert s0; refine kp4 hs rfl ?_; intro s0 s2 s20 s19
 have s3 := hd 3 rfl (by decide)
 obtain ⟨g5_3, q5_3⟩ := PxN.at s3; clear s3; have n5_3 := PxS.lt q5_3
 replace q5_3 := PxS.mono q5_3 e_w.size
 have s3 := q5_3; clear q5_3
 replace e_w := e_w.trans x
 replace e_w2 := e_w2.trans x
 have e_w4 := x; clear hd hs x
 have z6 := PxS.lt s3
 have l6 := (show (g5_3 = 0 ∨ w.heap.size < g5_3) ∧ True from ⟨by omega, trivial⟩)
 have l6_2 := PxS.lt (Q00 e_w2 s2)
 have l6_gL := OwnRA.lt (Q00 e_w4 gL)
 refine Q19 (lnkS (Q0f l).1 sv12) hr Q2f s3 (Q00 e_w4 s19) (by exact Q6d (Q9e _)) (by exact Q3v (Q9d (OwnRA.rw (Q00 e_w4 gL)))) rfl ?_; clear hr; intro a6 w6 hc hu hr hs
 have hb : Below w.heap.size w5 w6 := hc.below e_w.size l6.1
 revert s3; revert s20; revert s2; revert s0; refine kp4 hs rfl ?_; intro s0 s2 s20 s3
 clear s19
 replace s2 := PxS.other (Q00 e_w2 s2) hc (by omega)
 replace s3 := hu _ _ _ s3
 try simp only [List.set_cons_zero, List.set_cons_succ, lnkS, Q1y, Q1h] at s3
 replace gL := OwnRA.other (Q00 e_w4 gL) hc (by omega)
 replace e_w := e_w.below (Nat.le_refl _) hb
 clear e_w2
 clear e_w4
 replace s20 := anyw (w2 := w6) s20
 clear hu hs hc hb
 refine Q10 hr (Q03 s20) inferInstance ?_; clear hr; intro a7 w7 x hr hd hs
 revert s3; revert s2; revert s0; refine kp3 hs rfl ?_; intro s0 s2 s3
 clear s20
 have s4 := hd 4 rfl (by decide)
 replace e_w := e_w.trans x
 have e_w6 := x; clear hd hs x
 refine wpList_nil ?_
 refine es ?_
 refine sq ?_
 refine Q04 122 [[(4, none)], [(21, some 0)]] [?b8_0, ?b8_1] Q07 hr ?t8 ?o8 ?_
 case o8 =>
  apply oc0; intro A W hx hf
  exact Q01 (a0 := a7) (r0 hf)
  apply oc0; intro A W hx hf
  exact Q2h (p1 s4 hx (q0 ?b8_0 A W 21 hf)) (ec A (.int .i64 0))
  exact onn
 case t8 => exact inferInstance
 clear hr; intro a9 w9 x hr hd hs
 revert s3; revert s2; revert s0; refine kp3 hs rfl ?_; intro s0 s2 s3
 clear s4
 have s22 := fa ?b8_1 a9 w9 22 (hd 1 22 rfl)
 replace e_w := e_w.trans x
 replace e_w6 := e_w6.trans x; clear hd hs x
 refine et ?_
 refine wp_cond_split (show _ = _ from s22) (fun he => ?_) (fun he => ?_)
 ·
  have he : (Q0f l).2 ≠ 0 := by simpa using he
  have hp : Q0y l = give 1 := by unfold Q0y; rw [if_pos he]
  refine sq ?_
  refine Q05 (l := [_]) (rest := [_]) 122 [[]] [?b11_0] hr ?t11 ?o11 ?_
  case o11 =>
   apply oc0; intro A W hx hf
   exact Q15 [(0, (.const (.int .i64 1)))] [(0, _)] Qb1 rfl (PartsC.one (ec A (.int .i64 1)) rfl (PartsC.nil)) (by first | rfl | simp [Q0l, *])
   exact onn
  case t11 => exact inferInstance
  clear hr; intro a12 w12 x hr hd hs
  revert s2; refine kp1 hs rfl ?_; intro s2
  clear s0 s3 s22
  have s23 := fa ?b11_0 a12 w12 23 (hd 0 23 rfl)
  replace e_w := e_w.trans x
  replace e_w6 := e_w6.trans x; clear hd hs x
  have z13 := PxS.lt (Q00 e_w6 s2)
  have l13 := (show (g2_2 = 0 ∨ w.heap.size < g2_2) ∧ True from ⟨by omega, trivial⟩)
  have l13_gL := OwnRA.lt (Q00 e_w6 gL)
  refine Q0b hr Q35 (Q00 e_w6 s2) (Is.conv s23 (show _ = Value.agg (pktS (give 1)).flatten.toArray from rfl)) (by exact Q56 (Q5p _)) (by exact Q4r) rfl ?_; clear hr; intro a13 w13 hc hu hr hs
  have hb : Below w.heap.size w12 w13 := hc.below e_w.size l13.1
  revert s2; refine kp1 hs rfl ?_; intro s2
  clear s23
  replace s2 := hu _ _ _ (Q00 e_w6 s2)
  try simp only [List.set_cons_zero, List.set_cons_succ, lnkS, Q1y, Q1h] at s2
  replace gL := OwnRA.other (Q00 e_w6 gL) hc (by omega)
  replace e_w := e_w.below (Nat.le_refl _) hb
  clear e_w6
  clear hu hs hc hb
  refine wpList_nil ?_
  refine et ?_
  refine wp_ret ?_
  refine Q0d ?_
  refine Q2l Try.results14 hr tu37 rfl Q35 s2 e_w ?_
  first | exact rfl | (show _ = PktV (Q0y l); rw [hp]; rfl)
 have he : (Q0f l).2 = 0 := by simpa using he
 obtain ⟨y0, y2, y3⟩ := Qmg he
 have y1 : (Q0f l).1.at' = ((pkA l : Nat) : Int) := y0
 have y4 : pkA l ≤ l.length := y3
 refine wp_skip ?_
 refine es ?_
 refine Q04 122 [[(0, none)], [(3, none)], [(25, some 1)], [(24, some 0), (26, some 2)], [(27, some 3)]] [?b14_0, ?b14_1, ?b14_2, ?b14_3, ?b14_3] Q07 hr ?t14 ?o14 ?_
 case o14 =>
  apply oc0; intro A W hx hf
  exact Q01 (a0 := a9) (r0 hf)
  apply oc0; intro A W hx hf
  exact Q02 4 tu46 (k := 4) rfl Q0k rfl (o2 s3 e_w6 hx (r0 hf)) rfl
  apply oc0; intro A W hx hf
  exact Q09 tu3 rfl (q0 ?b14_1 A W 25 hf) rfl
  apply oc0; intro A W hx hf
  exact Q22 (pkA l) tu22 Q0i (sarg s0 (show _ = _ from (q0 ?b14_0 A W 24 hf))) (Is.int (q1 ?b14_2 A W 26 hf) (by exact y1)) (by omega)
  apply oc0; intro A W hx hf
  exact Q03 (q0 ?b14_3 A W 27 hf)
  exact onn
 case t14 => exact inferInstance
 clear hr; intro a15 w15 x hr hd hs
 revert s3; revert s2; refine kp2 hs rfl ?_; intro s2 s3
 clear s0 s22
 have s5 := AtW.base (fa ?b14_3 a15 w15 5 (hd 4 5 rfl))
 replace e_w := e_w.trans x
 replace e_w6 := e_w6.trans x; clear hd hs x
 have hq4 : (Q0f l).1.type = 2048 → pkN l = (⟨(Q0n (l.drop (pkA l))).1.head, (Q0n (l.drop (pkA l))).1.total, (Q0n (l.drop (pkA l))).1.proto, (Q0n (l.drop (pkA l))).1.frag, (Q0n (l.drop (pkA l))).1.src, (Q0n (l.drop (pkA l))).1.dst⟩, (Q0n (l.drop (pkA l))).2) := fun h => if_pos h
 have hq6 : (Q0f l).1.type ≠ 2048 → pkN l = (⟨(Q12 (l.drop (pkA l))).1.head, (Q12 (l.drop (pkA l))).1.total, (Q12 (l.drop (pkA l))).1.proto, (Q12 (l.drop (pkA l))).1.frag, (Q12 (l.drop (pkA l))).1.src, (Q12 (l.drop (pkA l))).1.dst⟩, (Q12 (l.drop (pkA l))).2) := fun h => if_neg h
 refine es ?_
 refine Q04 122 [[]] [?b16_0] Q07 hr ?t16 ?o16 ?_
 case o16 =>
  apply oc0; intro A W hx hf
  exact Q06
  exact onn
 case t16 => exact inferInstance
 clear hr; intro a17 w17 x hr hd hs
 revert s5; revert s3; revert s2; refine kp3 hs rfl ?_; intro s2 s3 s5
 replace e_w := e_w.trans x
 replace e_w6 := e_w6.trans x; clear hd hs x
 refine es ?_
 refine Q04 122 [[]] [?b18_0] Q07 hr ?t18 ?o18 ?_
 case o18 =>
  apply oc0; intro A W hx hf
  exact Q06
  exact onn
 case t18 => exact inferInstance
 clear hr; intro a19 w19 x hr hd hs
 revert s5; revert s3; revert s2; refine kp3 hs rfl ?_; intro s2 s3 s5
 replace e_w := e_w.trans x
 replace e_w6 := e_w6.trans x; clear hd hs x
 refine es ?_
 refine Q04 122 [[]] [?b20_0] Q07 hr ?t20 ?o20 ?_
 case o20 =>
  apply oc0; intro A W hx hf
  exact Q06
  exact onn
 case t20 => exact inferInstance
 clear hr; intro a21 w21 x hr hd hs
 revert s5; revert s3; revert s2; refine kp3 hs rfl ?_; intro s2 s3 s5
 replace e_w := e_w.trans x
 replace e_w6 := e_w6.trans x; clear hd hs x
 refine es ?_
 refine Q05 (l := [_, _]) (rest := [_]) 122 [[], []] [?b22_0, ?b22_1] hr ?t22 ?o22 ?_
 case o22 =>
  apply oc0; intro A W hx hf
  exact Q0x Qma
  apply oc0; intro A W hx hf
  exact Q0v (tupS tup0) [1, 16, 1, 16, 1, 1, 1] Qat (by rfl) (by rfl) hx.size
  exact onn
 case t22 => exact inferInstance
 clear hr; intro a23 w23 x hr hd hs
 have z_w_w21 := e_w.size
 have z_w6_w21 := e_w6.size
 have l23_2 := PxS.lt (Q00 e_w6 s2)
 have l23_3 := PxS.lt (Q00 e_w6 s3)
 have l23_gL := OwnRA.lt (Q00 e_w6 gL)
 revert s5; revert s3; revert s2; refine kp3 hs rfl ?_; intro s2 s3 s5
 have s28 := fa ?b22_0 a23 w23 28 (hd 0 28 rfl)
 have s9 := fa ?b22_1 a23 w23 9 (hd 1 9 rfl)
 obtain ⟨g23_9, q23_9⟩ := PxN.at s9; clear s9; have n23_9 := PxS.lt q23_9
 replace q23_9 := PxS.mono q23_9 e_w.size
 have s9 := q23_9; clear q23_9
 replace e_w := e_w.trans x
 replace e_w6 := e_w6.trans x; clear hd hs x
 have z24 := PxS.lt s9
 have l24 := (show (g23_9 = 0 ∨ w.heap.size < g23_9) ∧ True from ⟨by omega, trivial⟩)
 have l24_2 := PxS.lt (Q00 e_w6 s2)
 have l24_3 := PxS.lt (Q00 e_w6 s3)
 have l24_gL := OwnRA.lt (Q00 e_w6 gL)
 refine Q19 (tupS tup0) hr Q3f s9 (Is.conv s28 (show _ = TupV tup0 from rfl)) (by exact Q4m Qii) (by exact Q6u) rfl ?_; clear hr; intro a24 w24 hc hu hr hs
 have hb : Below w.heap.size w23 w24 := hc.below e_w.size l24.1
 revert s9; revert s5; revert s3; revert s2; refine kp4 hs rfl ?_; intro s2 s3 s5 s9
 clear s28
 replace s2 := PxS.other (Q00 e_w6 s2) hc (by omega)
 replace s3 := PxS.other (Q00 e_w6 s3) hc (by omega)
 replace s9 := hu _ _ _ s9
 try simp only [List.set_cons_zero, List.set_cons_succ, lnkS, Q1y, Q1h] at s9
 replace gL := OwnRA.other (Q00 e_w6 gL) hc (by omega)
 replace e_w := e_w.below (Nat.le_refl _) hb
 clear e_w6
 clear hu hs hc hb
 refine wpList_nil ?_
 refine es ?_
 refine sq ?_
 refine Q04 122 [[(3, none)], [(29, some 0)], [(30, some 1)]] [?b25_0, ?b25_1, ?b25_2] Q07 hr ?t25 ?o25 ?_
 case o25 =>
  apply oc0; intro A W hx hf
  exact Q02 3 tu46 (k := 3) rfl Q0k rfl (o1 s3 hx (r0 hf)) rfl
  apply oc0; intro A W hx hf
  exact Q09 tu3 rfl (q0 ?b25_0 A W 29 hf) rfl
  apply oc0; intro A W hx hf
  exact Q1f (q0 ?b25_1 A W 30 hf) (ec A (.int .i64 2048))
  exact onn
 case t25 => exact inferInstance
 clear hr; intro a26 w26 x hr hd hs
 revert s9; revert s3; revert s2; revert s5; refine kp4 hs rfl ?_; intro s5 s2 s3 s9
 have s31 := fa ?b25_2 a26 w26 31 (hd 2 31 rfl)
 replace e_w := e_w.trans x
 have e_w24 := x; clear hd hs x
 refine et ?_
 refine Q2k (fun A W => Fr 122 A ∧ Same Q7r a26 A ∧ Ext w W ∧ ((pkN l).2 = 0) ∧ ((Q0f l).1.type = 2048 ∨ (Q0f l).1.type = 34525) ∧ (PxS g2_2 w.heap.size [42] [(pktS (give 0)).flatten] 0) (A.eval (.tmp 2)) W ∧ (PxS g5_3 w.heap.size [6, 6, 1, 1, 1] (lnkS (Q0f l).1 sv12) 0) (A.eval (.tmp 3)) W ∧ (Is (.int .i64 (pkN l).1.head)) (A.eval (.tmp 6)) W ∧ (Is (.int .i64 (pkN l).1.total)) (A.eval (.tmp 7)) W ∧ (Is (.bool (pkN l).1.frag)) (A.eval (.tmp 8)) W ∧ (PxS g23_9 w.heap.size [1, 16, 1, 16, 1, 1, 1] (tupS (⟨(pkN l).1.src, (pkN l).1.dst, (pkN l).1.proto, 0, 0⟩ : TupL)) 0) (A.eval (.tmp 9)) W) ?cut27 ?_
 case cut27 =>
  have m27 : Same Q7r a26 a26 := Same.rfl
  refine wp_cond_split (show _ = _ from s31) (fun hk => ?_) (fun hk => ?_)
  ·
   have hk : (Q0f l).1.type = 2048 := by simpa using hk
   have ht : (Q0f l).1.type = 2048 ∨ (Q0f l).1.type = 34525 := .inl hk
   have hq := hq4 hk
   refine sq ?_
   refine Q05 (l := [_, _, _, _, _, _]) (rest := [_, _]) 122 [[(5, none)], [(33, some 0)], [(34, some 1)], [(32, some 2)], [(32, some 2)], []] [?b29_0, ?b29_1, ?b29_1, ?b29_3, ?b29_4, ?b29_5] hr ?t29 ?o29 ?_
   case o29 =>
    apply oc0; intro A W hx hf
    exact Q01 (a0 := a26) (r0 hf)
    apply oc0; intro A W hx hf
    exact Q1d Qo2 (Qk4 (p2 s5 e_w hx (q0 ?b29_0 A W 33 hf)) (by rw [List.length_drop]; omega))
    apply oc0; intro A W hx hf
    exact Q0p (q0 ?b29_1 A W 34 hf)
    apply oc0; intro A W hx hf
    exact Q2a (q0 ?b29_1 A W 32 hf)
    apply oc0; intro A W hx hf
    exact Q2b (q0 ?b29_1 A W 32 hf)
    apply oc0; intro A W hx hf
    exact Q0v (Q1y Q44) [1, 1, 1, 1, 1, 1, 1, 1, 1, 16, 1, 16] Qaz (by rfl) (by rfl) hx.size
    exact onn
   case t29 => exact inferInstance
   clear hr; intro a30 w30 x hr hd hs
   have z_w_w26 := e_w.size
   have z_w24_w26 := e_w24.size
   have l30_2 := PxS.lt (Q00 e_w24 s2)
   have l30_3 := PxS.lt (Q00 e_w24 s3)
   have l30_9 := PxS.lt (Q00 e_w24 s9)
   have l30_gL := OwnRA.lt (Q00 e_w24 gL)
   revert s9; revert s3; revert s2; revert s5; refine kp4 hs rfl ?_; intro s5 s2 s3 s9
   clear s31
   have s35 := fa ?b29_3 a30 w30 35 (hd 3 35 rfl)
   have s36 := fa ?b29_4 a30 w30 36 (hd 4 36 rfl)
   have s10 := fa ?b29_5 a30 w30 10 (hd 5 10 rfl)
   obtain ⟨g30_10, q30_10⟩ := PxN.at s10; clear s10; have n30_10 := PxS.lt q30_10
   replace q30_10 := PxS.mono q30_10 e_w.size
   have s10 := q30_10; clear q30_10
   replace e_w := e_w.trans x
   replace e_w24 := e_w24.trans x
   replace m27 := m27.tr hs rfl; clear hd hs x
   have z31 := PxS.lt s10
   have l31 := (show (g30_10 = 0 ∨ w.heap.size < g30_10) ∧ True from ⟨by omega, trivial⟩)
   have l31_2 := PxS.lt (Q00 e_w24 s2)
   have l31_3 := PxS.lt (Q00 e_w24 s3)
   have l31_9 := PxS.lt (Q00 e_w24 s9)
   have l31_gL := OwnRA.lt (Q00 e_w24 gL)
   refine Q19 (Q1y (Q0n (l.drop (pkA l))).1) hr Q29 s10 s35 (by exact Q6z (Q3a _)) (by exact Q2g) rfl ?_; clear hr; intro a31 w31 hc hu hr hs
   have hb : Below w.heap.size w30 w31 := hc.below e_w.size l31.1
   revert s10; revert s36; revert s9; revert s3; revert s2; revert s5; refine kp6 hs rfl ?_; intro s5 s2 s3 s9 s36 s10
   clear s35
   replace s2 := PxS.other (Q00 e_w24 s2) hc (by omega)
   replace s3 := PxS.other (Q00 e_w24 s3) hc (by omega)
   replace s9 := PxS.other (Q00 e_w24 s9) hc (by omega)
   replace s10 := hu _ _ _ s10
   try simp only [List.set_cons_zero, List.set_cons_succ, lnkS, Q1y, Q1h] at s10
   replace gL := OwnRA.other (Q00 e_w24 gL) hc (by omega)
   replace e_w := e_w.below (Nat.le_refl _) hb
   clear e_w24
   replace s36 := anyw (w2 := w31) s36
   replace m27 := m27.tr hs rfl
   clear hu hs hc hb
   refine Q10 hr (Q03 s36) inferInstance ?_; clear hr; intro a32 w32 x hr hd hs
   revert s10; revert s9; revert s3; revert s2; revert s5; refine kp5 hs rfl ?_; intro s5 s2 s3 s9 s10
   clear s36
   have s11 := hd 11 rfl (by decide)
   replace e_w := e_w.trans x
   have e_w31 := x
   replace m27 := m27.tr hs rfl; clear hd hs x
   refine wpList_nil ?_
   refine es ?_
   refine sq ?_
   refine Q04 122 [[(11, none)], [(37, some 0)]] [?b33_0, ?b33_1] Q07 hr ?t33 ?o33 ?_
   case o33 =>
    apply oc0; intro A W hx hf
    exact Q01 (a0 := a32) (r0 hf)
    apply oc0; intro A W hx hf
    exact Q2h (p1 s11 hx (q0 ?b33_0 A W 37 hf)) (ec A (.int .i64 0))
    exact onn
   case t33 => exact inferInstance
   clear hr; intro a34 w34 x hr hd hs
   revert s10; revert s9; revert s3; revert s2; revert s5; refine kp5 hs rfl ?_; intro s5 s2 s3 s9 s10
   clear s11
   have s38 := fa ?b33_1 a34 w34 38 (hd 1 38 rfl)
   replace e_w := e_w.trans x
   replace e_w31 := e_w31.trans x
   replace m27 := m27.tr hs rfl; clear hd hs x
   refine et ?_
   refine wp_cond_split (show _ = _ from s38) (fun hf => ?_) (fun hf => ?_)
   ·
    have hN3 : (pkN l).2 ≠ 0 := by rw [hq]; simpa using hf
    have hp : Q0y l = give 3 := by unfold Q0y; rw [if_neg (by rw [he]; decide)]; rw [if_neg (not_not_intro ht)]; rw [if_pos hN3]
    refine sq ?_
    refine Q05 (l := [_]) (rest := [_]) 122 [[]] [?b36_0] hr ?t36 ?o36 ?_
    case o36 =>
     apply oc0; intro A W hx hf
     exact Q15 [(0, (.const (.int .i64 3)))] [(0, _)] Qb1 rfl (PartsC.one (ec A (.int .i64 3)) rfl (PartsC.nil)) (by first | rfl | simp [Q0l, *])
     exact onn
    case t36 => exact inferInstance
    clear hr; intro a37 w37 x hr hd hs
    revert s2; refine kp1 hs rfl ?_; intro s2
    clear s5 s3 s9 s10 s38
    have s39 := fa ?b36_0 a37 w37 39 (hd 0 39 rfl)
    replace e_w := e_w.trans x
    replace e_w31 := e_w31.trans x
    replace m27 := m27.tr hs rfl; clear hd hs x
    have z38 := PxS.lt (Q00 e_w31 s2)
    have l38 := (show (g2_2 = 0 ∨ w.heap.size < g2_2) ∧ True from ⟨by omega, trivial⟩)
    have l38_gL := OwnRA.lt (Q00 e_w31 gL)
    refine Q0b hr Q35 (Q00 e_w31 s2) (Is.conv s39 (show _ = Value.agg (pktS (give 3)).flatten.toArray from rfl)) (by exact Q56 (Q5p _)) (by exact Q4r) rfl ?_; clear hr; intro a38 w38 hc hu hr hs
    have hb : Below w.heap.size w37 w38 := hc.below e_w.size l38.1
    revert s2; refine kp1 hs rfl ?_; intro s2
    clear s39
    replace s2 := hu _ _ _ (Q00 e_w31 s2)
    try simp only [List.set_cons_zero, List.set_cons_succ, lnkS, Q1y, Q1h] at s2
    replace gL := OwnRA.other (Q00 e_w31 gL) hc (by omega)
    replace e_w := e_w.below (Nat.le_refl _) hb
    clear e_w31
    replace m27 := m27.tr hs rfl
    clear hu hs hc hb
    refine wpList_nil ?_
    refine et ?_
    refine wp_ret ?_
    refine Q0d ?_
    refine Q0d ?_
    refine Q2l Try.results14 hr tu37 rfl Q35 s2 e_w ?_
    first | exact rfl | (show _ = PktV (Q0y l); rw [hp]; rfl)
   have hN : (pkN l).2 = 0 := by rw [hq]; simpa using hf
   refine wp_skip ?_
   refine es ?_
   refine Q04 122 [[(10, none)], [(40, some 0)], [(41, some 1)]] [?b39_0, ?b39_1, ?b39_1] Q07 hr ?t39 ?o39 ?_
   case o39 =>
    apply oc0; intro A W hx hf
    exact Q02 0 tu58 (k := 0) rfl Q0k rfl (o2 s10 e_w31 hx (r0 hf)) rfl
    apply oc0; intro A W hx hf
    exact Q09 tu3 rfl (q0 ?b39_0 A W 40 hf) rfl
    apply oc0; intro A W hx hf
    exact Q03 (q0 ?b39_1 A W 41 hf)
    exact onn
   case t39 => exact inferInstance
   clear hr; intro a40 w40 x hr hd hs
   revert s10; revert s9; revert s3; revert s2; revert s5; refine kp5 hs rfl ?_; intro s5 s2 s3 s9 s10
   clear s38
   have s6 := fa ?b39_1 a40 w40 6 (hd 2 6 rfl)
   replace e_w := e_w.trans x
   replace e_w31 := e_w31.trans x
   replace m27 := m27.tr hs rfl; clear hd hs x
   refine es ?_
   refine Q04 122 [[(10, none)], [(42, some 0)], [(43, some 1)]] [?b41_0, ?b41_1, ?b41_1] Q07 hr ?t41 ?o41 ?_
   case o41 =>
    apply oc0; intro A W hx hf
    exact Q02 1 tu58 (k := 1) rfl Q0k rfl (o2 s10 e_w31 hx (r0 hf)) rfl
    apply oc0; intro A W hx hf
    exact Q09 tu3 rfl (q0 ?b41_0 A W 42 hf) rfl
    apply oc0; intro A W hx hf
    exact Q03 (q0 ?b41_1 A W 43 hf)
    exact onn
   case t41 => exact inferInstance
   clear hr; intro a42 w42 x hr hd hs
   revert s6; revert s10; revert s9; revert s3; revert s2; revert s5; refine kp6 hs rfl ?_; intro s5 s2 s3 s9 s10 s6
   have s7 := fa ?b41_1 a42 w42 7 (hd 2 7 rfl)
   replace e_w := e_w.trans x
   replace e_w31 := e_w31.trans x
   have e_w40 := x
   replace m27 := m27.tr hs rfl; clear hd hs x
   refine es ?_
   refine Q04 122 [[(10, none)], [(44, some 0)], [(45, some 1)]] [?b43_0, ?b43_1, ?b43_1] Q07 hr ?t43 ?o43 ?_
   case o43 =>
    apply oc0; intro A W hx hf
    exact Q02 4 tu58 (k := 4) rfl Q4o rfl (o2 s10 e_w31 hx (r0 hf)) rfl
    apply oc0; intro A W hx hf
    exact Q09 tu4 rfl (q0 ?b43_0 A W 44 hf) rfl
    apply oc0; intro A W hx hf
    exact Q03 (q0 ?b43_1 A W 45 hf)
    exact onn
   case t43 => exact inferInstance
   clear hr; intro a44 w44 x hr hd hs
   revert s6; revert s10; revert s9; revert s3; revert s2; revert s5; refine kp6 hs rfl ?_; intro s5 s2 s3 s9 s10 s6
   revert s7; refine kp1 hs rfl ?_; intro s7
   have s8 := fa ?b43_1 a44 w44 8 (hd 2 8 rfl)
   replace e_w := e_w.trans x
   replace e_w31 := e_w31.trans x
   replace e_w40 := e_w40.trans x
   have e_w42 := x
   replace m27 := m27.tr hs rfl; clear hd hs x
   refine et ?_
   refine Q05 (l := [_, _, _, _, _, _, _]) (rest := [_]) 122 [[(10, none)], [(46, some 0)], [(10, none)], [(48, some 2)], [(10, none)], [(50, some 4)], [(47, some 1), (49, some 3), (51, some 5)]] [?b45_0, ?b45_1, ?b45_2, ?b45_3, ?b45_4, ?b45_5, ?b45_6] hr ?t45 ?o45 ?_
   case o45 =>
    apply oc0; intro A W hx hf
    exact Q02 8 tu58 (k := 8) rfl Q16 rfl (o2 s10 e_w31 hx (r0 hf)) rfl
    apply oc0; intro A W hx hf
    exact Q0j 10 tu25 rfl Q16 (q0 ?b45_0 A W 46 hf) rfl
    apply oc0; intro A W hx hf
    exact Q02 10 tu58 (k := 9) rfl Q16 rfl (o2 s10 e_w31 hx (r0 hf)) rfl
    apply oc0; intro A W hx hf
    exact Q0j 12 tu25 rfl Q16 (q0 ?b45_2 A W 48 hf) rfl
    apply oc0; intro A W hx hf
    exact Q02 7 tu58 (k := 7) rfl Q0k rfl (o2 s10 e_w31 hx (r0 hf)) rfl
    apply oc0; intro A W hx hf
    exact Q09 tu3 rfl (q0 ?b45_4 A W 50 hf) rfl
    apply oc0; intro A W hx hf
    exact Q15 [(0, (.tmp 47)), (1, (.tmp 49)), (2, (.tmp 51))] [(0, _), (1, _), (2, _)] Qjs rfl (PartsC.agg (q0 ?b45_1 A W 47 hf) (PartsC.agg (q1 ?b45_3 A W 49 hf) (PartsC.one (q2 ?b45_5 A W 51 hf) rfl (PartsC.nil)))) (by simp [(Q3a (l.drop (pkA l))).1, (Q3a (l.drop (pkA l))).2])
    exact onn
   case t45 => exact inferInstance
   clear hr; intro a46 w46 x hr hd hs
   revert s7; revert s6; revert s9; revert s3; revert s2; revert s5; refine kp6 hs rfl ?_; intro s5 s2 s3 s9 s6 s7
   revert s8; refine kp1 hs rfl ?_; intro s8
   clear s10
   have s52 := fa ?b45_6 a46 w46 52 (hd 6 52 rfl)
   replace e_w := e_w.trans x
   replace e_w31 := e_w31.trans x
   replace e_w40 := e_w40.trans x
   replace e_w42 := e_w42.trans x
   have e_w44 := x
   replace m27 := m27.tr hs rfl; clear hd hs x
   have z47 := PxS.lt (Q00 e_w31 s9)
   have l47 := (show (g23_9 = 0 ∨ w.heap.size < g23_9) ∧ True from ⟨by omega, trivial⟩)
   have l47_2 := PxS.lt (Q00 e_w31 s2)
   have l47_3 := PxS.lt (Q00 e_w31 s3)
   have l47_gL := OwnRA.lt (Q00 e_w31 gL)
   refine Q19 (tupS (⟨(pkN l).1.src, (pkN l).1.dst, (pkN l).1.proto, 0, 0⟩ : TupL)) hr Q3f (Q00 e_w31 s9) (Is.conv s52 (show _ = TupV (⟨(pkN l).1.src, (pkN l).1.dst, (pkN l).1.proto, 0, 0⟩ : TupL) from by rw [hq]; simp [TupV, tupS, Q49, Q0l, Q1y])) (by exact Q4m ⟨hs16, hd16⟩) (by exact Q6u) rfl ?_; clear hr; intro a47 w47 hc hu hr hs
   have hb : Below w.heap.size w46 w47 := hc.below e_w.size l47.1
   revert s7; revert s6; revert s9; revert s3; revert s2; revert s5; refine kp6 hs rfl ?_; intro s5 s2 s3 s9 s6 s7
   revert s8; refine kp1 hs rfl ?_; intro s8
   clear s52
   replace s2 := PxS.other (Q00 e_w31 s2) hc (by omega)
   replace s3 := PxS.other (Q00 e_w31 s3) hc (by omega)
   replace s9 := hu _ _ _ (Q00 e_w31 s9)
   try simp only [List.set_cons_zero, List.set_cons_succ, lnkS, Q1y, Q1h] at s9
   replace gL := OwnRA.other (Q00 e_w31 gL) hc (by omega)
   replace e_w := e_w.below (Nat.le_refl _) hb
   clear e_w31
   clear e_w40
   clear e_w42
   clear e_w44
   replace s6 := anyw (w2 := w47) s6
   replace s7 := anyw (w2 := w47) s7
   replace s8 := anyw (w2 := w47) s8
   replace m27 := m27.tr hs rfl
   clear hu hs hc hb
   refine wpList_nil ?_
   refine et ?_
   refine ⟨hr, m27, e_w, (by first | assumption | omega), (by first | assumption | omega), ?_, ?_, ?_, ?_, ?_, ?_⟩
   · exact s2
   · exact s3
   · exact Is.conv s6 (by rw [hq])
   · exact Is.conv s7 (by rw [hq])
   · exact Is.conv s8 (by rw [hq])
   · exact s9
  have hk : (Q0f l).1.type ≠ 2048 := by simpa using hk
  have hq := hq6 hk
  refine sq ?_
  refine Q04 122 [[(3, none)], [(53, some 0)], [(54, some 1)]] [?b48_0, ?b48_1, ?b48_2] Q07 hr ?t48 ?o48 ?_
  case o48 =>
   apply oc0; intro A W hx hf
   exact Q02 3 tu46 (k := 3) rfl Q0k rfl (o2 s3 e_w24 hx (r0 hf)) rfl
   apply oc0; intro A W hx hf
   exact Q09 tu3 rfl (q0 ?b48_0 A W 53 hf) rfl
   apply oc0; intro A W hx hf
   exact Q1f (q0 ?b48_1 A W 54 hf) (ec A (.int .i64 34525))
   exact onn
  case t48 => exact inferInstance
  clear hr; intro a49 w49 x hr hd hs
  revert s9; revert s3; revert s2; revert s5; refine kp4 hs rfl ?_; intro s5 s2 s3 s9
  clear s31
  have s55 := fa ?b48_2 a49 w49 55 (hd 2 55 rfl)
  replace e_w := e_w.trans x
  replace e_w24 := e_w24.trans x
  replace m27 := m27.tr hs rfl; clear hd hs x
  refine et ?_
  refine wp_cond_split (show _ = _ from s55) (fun hk2 => ?_) (fun hk2 => ?_)
  ·
   have ht : (Q0f l).1.type = 2048 ∨ (Q0f l).1.type = 34525 := .inr (by simpa using hk2)
   refine sq ?_
   refine Q05 (l := [_, _, _, _, _, _]) (rest := [_, _]) 122 [[(5, none)], [(57, some 0)], [(58, some 1)], [(56, some 2)], [(56, some 2)], []] [?b51_0, ?b51_1, ?b51_1, ?b51_3, ?b51_4, ?b51_5] hr ?t51 ?o51 ?_
   case o51 =>
    apply oc0; intro A W hx hf
    exact Q01 (a0 := a49) (r0 hf)
    apply oc0; intro A W hx hf
    exact Q1d Qo3 (Qkw (p2 s5 e_w hx (q0 ?b51_0 A W 57 hf)))
    apply oc0; intro A W hx hf
    exact Q0p (q0 ?b51_1 A W 58 hf)
    apply oc0; intro A W hx hf
    exact Q2a (q0 ?b51_1 A W 56 hf)
    apply oc0; intro A W hx hf
    exact Q2b (q0 ?b51_1 A W 56 hf)
    apply oc0; intro A W hx hf
    exact Q0v (Q1h six0) [1, 1, 1, 1, 1, 1, 1, 16, 1, 16] Q83 (by rfl) (by rfl) hx.size
    exact onn
   case t51 => exact inferInstance
   clear hr; intro a52 w52 x hr hd hs
   have z_w_w49 := e_w.size
   have z_w24_w49 := e_w24.size
   have l52_2 := PxS.lt (Q00 e_w24 s2)
   have l52_3 := PxS.lt (Q00 e_w24 s3)
   have l52_9 := PxS.lt (Q00 e_w24 s9)
   have l52_gL := OwnRA.lt (Q00 e_w24 gL)
   revert s9; revert s3; revert s2; revert s5; refine kp4 hs rfl ?_; intro s5 s2 s3 s9
   clear s55
   have s59 := fa ?b51_3 a52 w52 59 (hd 3 59 rfl)
   have s60 := fa ?b51_4 a52 w52 60 (hd 4 60 rfl)
   have s12 := fa ?b51_5 a52 w52 12 (hd 5 12 rfl)
   obtain ⟨g52_12, q52_12⟩ := PxN.at s12; clear s12; have n52_12 := PxS.lt q52_12
   replace q52_12 := PxS.mono q52_12 e_w.size
   have s12 := q52_12; clear q52_12
   replace e_w := e_w.trans x
   replace e_w24 := e_w24.trans x
   replace m27 := m27.tr hs rfl; clear hd hs x
   have z53 := PxS.lt s12
   have l53 := (show (g52_12 = 0 ∨ w.heap.size < g52_12) ∧ True from ⟨by omega, trivial⟩)
   have l53_2 := PxS.lt (Q00 e_w24 s2)
   have l53_3 := PxS.lt (Q00 e_w24 s3)
   have l53_9 := PxS.lt (Q00 e_w24 s9)
   have l53_gL := OwnRA.lt (Q00 e_w24 gL)
   refine Q19 (Q1h (Q12 (l.drop (pkA l))).1) hr Q23 s12 (Is.conv s59 (show SixV _ = _ from by unfold SixV; rw [Q5v])) (by exact Q5g (Q3u _)) (by rw [Q5v]; exact Q2x) rfl ?_; clear hr; intro a53 w53 hc hu hr hs
   have hb : Below w.heap.size w52 w53 := hc.below e_w.size l53.1
   revert s12; revert s60; revert s9; revert s3; revert s2; revert s5; refine kp6 hs rfl ?_; intro s5 s2 s3 s9 s60 s12
   clear s59
   replace s2 := PxS.other (Q00 e_w24 s2) hc (by omega)
   replace s3 := PxS.other (Q00 e_w24 s3) hc (by omega)
   replace s9 := PxS.other (Q00 e_w24 s9) hc (by omega)
   replace s12 := hu _ _ _ s12
   try simp only [List.set_cons_zero, List.set_cons_succ, lnkS, Q1y, Q1h] at s12
   replace gL := OwnRA.other (Q00 e_w24 gL) hc (by omega)
   replace e_w := e_w.below (Nat.le_refl _) hb
   clear e_w24
   replace s60 := anyw (w2 := w53) s60
   replace m27 := m27.tr hs rfl
   clear hu hs hc hb
   refine Q10 hr (Q03 s60) inferInstance ?_; clear hr; intro a54 w54 x hr hd hs
   revert s12; revert s9; revert s3; revert s2; revert s5; refine kp5 hs rfl ?_; intro s5 s2 s3 s9 s12
   clear s60
   have s13 := hd 13 rfl (by decide)
   replace e_w := e_w.trans x
   have e_w53 := x
   replace m27 := m27.tr hs rfl; clear hd hs x
   refine wpList_nil ?_
   refine es ?_
   refine sq ?_
   refine Q04 122 [[(13, none)], [(61, some 0)]] [?b55_0, ?b55_1] Q07 hr ?t55 ?o55 ?_
   case o55 =>
    apply oc0; intro A W hx hf
    exact Q01 (a0 := a54) (r0 hf)
    apply oc0; intro A W hx hf
    exact Q2h (p1 s13 hx (q0 ?b55_0 A W 61 hf)) (ec A (.int .i64 0))
    exact onn
   case t55 => exact inferInstance
   clear hr; intro a56 w56 x hr hd hs
   revert s12; revert s9; revert s3; revert s2; revert s5; refine kp5 hs rfl ?_; intro s5 s2 s3 s9 s12
   clear s13
   have s62 := fa ?b55_1 a56 w56 62 (hd 1 62 rfl)
   replace e_w := e_w.trans x
   replace e_w53 := e_w53.trans x
   replace m27 := m27.tr hs rfl; clear hd hs x
   refine et ?_
   refine wp_cond_split (show _ = _ from s62) (fun hf => ?_) (fun hf => ?_)
   ·
    have hN3 : (pkN l).2 ≠ 0 := by rw [hq]; simpa using hf
    have hp : Q0y l = give 3 := by unfold Q0y; rw [if_neg (by rw [he]; decide)]; rw [if_neg (not_not_intro ht)]; rw [if_pos hN3]
    refine sq ?_
    refine Q05 (l := [_]) (rest := [_]) 122 [[]] [?b58_0] hr ?t58 ?o58 ?_
    case o58 =>
     apply oc0; intro A W hx hf
     exact Q15 [(0, (.const (.int .i64 3)))] [(0, _)] Qb1 rfl (PartsC.one (ec A (.int .i64 3)) rfl (PartsC.nil)) (by first | rfl | simp [Q0l, *])
     exact onn
    case t58 => exact inferInstance
    clear hr; intro a59 w59 x hr hd hs
    revert s2; refine kp1 hs rfl ?_; intro s2
    clear s5 s3 s9 s12 s62
    have s63 := fa ?b58_0 a59 w59 63 (hd 0 63 rfl)
    replace e_w := e_w.trans x
    replace e_w53 := e_w53.trans x
    replace m27 := m27.tr hs rfl; clear hd hs x
    have z60 := PxS.lt (Q00 e_w53 s2)
    have l60 := (show (g2_2 = 0 ∨ w.heap.size < g2_2) ∧ True from ⟨by omega, trivial⟩)
    have l60_gL := OwnRA.lt (Q00 e_w53 gL)
    refine Q0b hr Q35 (Q00 e_w53 s2) (Is.conv s63 (show _ = Value.agg (pktS (give 3)).flatten.toArray from rfl)) (by exact Q56 (Q5p _)) (by exact Q4r) rfl ?_; clear hr; intro a60 w60 hc hu hr hs
    have hb : Below w.heap.size w59 w60 := hc.below e_w.size l60.1
    revert s2; refine kp1 hs rfl ?_; intro s2
    clear s63
    replace s2 := hu _ _ _ (Q00 e_w53 s2)
    try simp only [List.set_cons_zero, List.set_cons_succ, lnkS, Q1y, Q1h] at s2
    replace gL := OwnRA.other (Q00 e_w53 gL) hc (by omega)
    replace e_w := e_w.below (Nat.le_refl _) hb
    clear e_w53
    replace m27 := m27.tr hs rfl
    clear hu hs hc hb
    refine wpList_nil ?_
    refine et ?_
    refine wp_ret ?_
    refine Q0d ?_
    refine Q0d ?_
    refine Q2l Try.results14 hr tu37 rfl Q35 s2 e_w ?_
    first | exact rfl | (show _ = PktV (Q0y l); rw [hp]; rfl)
   have hN : (pkN l).2 = 0 := by rw [hq]; simpa using hf
   refine wp_skip ?_
   refine es ?_
   refine Q04 122 [[(12, none)], [(64, some 0)], [(65, some 1)]] [?b61_0, ?b61_1, ?b61_1] Q07 hr ?t61 ?o61 ?_
   case o61 =>
    apply oc0; intro A W hx hf
    exact Q02 0 tu62 (k := 0) rfl Q0k rfl (o2 s12 e_w53 hx (r0 hf)) rfl
    apply oc0; intro A W hx hf
    exact Q09 tu3 rfl (q0 ?b61_0 A W 64 hf) rfl
    apply oc0; intro A W hx hf
    exact Q03 (q0 ?b61_1 A W 65 hf)
    exact onn
   case t61 => exact inferInstance
   clear hr; intro a62 w62 x hr hd hs
   revert s12; revert s9; revert s3; revert s2; revert s5; refine kp5 hs rfl ?_; intro s5 s2 s3 s9 s12
   clear s62
   have s6 := fa ?b61_1 a62 w62 6 (hd 2 6 rfl)
   replace e_w := e_w.trans x
   replace e_w53 := e_w53.trans x
   replace m27 := m27.tr hs rfl; clear hd hs x
   refine es ?_
   refine Q04 122 [[(12, none)], [(66, some 0)], [(67, some 1)]] [?b63_0, ?b63_1, ?b63_1] Q07 hr ?t63 ?o63 ?_
   case o63 =>
    apply oc0; intro A W hx hf
    exact Q02 1 tu62 (k := 1) rfl Q0k rfl (o2 s12 e_w53 hx (r0 hf)) rfl
    apply oc0; intro A W hx hf
    exact Q09 tu3 rfl (q0 ?b63_0 A W 66 hf) rfl
    apply oc0; intro A W hx hf
    exact Q03 (q0 ?b63_1 A W 67 hf)
    exact onn
   case t63 => exact inferInstance
   clear hr; intro a64 w64 x hr hd hs
   revert s6; revert s12; revert s9; revert s3; revert s2; revert s5; refine kp6 hs rfl ?_; intro s5 s2 s3 s9 s12 s6
   have s7 := fa ?b63_1 a64 w64 7 (hd 2 7 rfl)
   replace e_w := e_w.trans x
   replace e_w53 := e_w53.trans x
   have e_w62 := x
   replace m27 := m27.tr hs rfl; clear hd hs x
   refine es ?_
   refine Q04 122 [[(12, none)], [(68, some 0)], [(69, some 1)]] [?b65_0, ?b65_1, ?b65_1] Q07 hr ?t65 ?o65 ?_
   case o65 =>
    apply oc0; intro A W hx hf
    exact Q02 3 tu62 (k := 3) rfl Q4o rfl (o2 s12 e_w53 hx (r0 hf)) rfl
    apply oc0; intro A W hx hf
    exact Q09 tu4 rfl (q0 ?b65_0 A W 68 hf) rfl
    apply oc0; intro A W hx hf
    exact Q03 (q0 ?b65_1 A W 69 hf)
    exact onn
   case t65 => exact inferInstance
   clear hr; intro a66 w66 x hr hd hs
   revert s6; revert s12; revert s9; revert s3; revert s2; revert s5; refine kp6 hs rfl ?_; intro s5 s2 s3 s9 s12 s6
   revert s7; refine kp1 hs rfl ?_; intro s7
   have s8 := fa ?b65_1 a66 w66 8 (hd 2 8 rfl)
   replace e_w := e_w.trans x
   replace e_w53 := e_w53.trans x
   replace e_w62 := e_w62.trans x
   have e_w64 := x
   replace m27 := m27.tr hs rfl; clear hd hs x
   refine et ?_
   refine Q05 (l := [_, _, _, _, _, _, _]) (rest := [_]) 122 [[(12, none)], [(70, some 0)], [(12, none)], [(72, some 2)], [(12, none)], [(74, some 4)], [(71, some 1), (73, some 3), (75, some 5)]] [?b67_0, ?b67_1, ?b67_2, ?b67_3, ?b67_4, ?b67_5, ?b67_6] hr ?t67 ?o67 ?_
   case o67 =>
    apply oc0; intro A W hx hf
    exact Q02 6 tu62 (k := 6) rfl Q16 rfl (o2 s12 e_w53 hx (r0 hf)) rfl
    apply oc0; intro A W hx hf
    exact Q0j 8 tu25 rfl Q16 (q0 ?b67_0 A W 70 hf) rfl
    apply oc0; intro A W hx hf
    exact Q02 8 tu62 (k := 7) rfl Q16 rfl (o2 s12 e_w53 hx (r0 hf)) rfl
    apply oc0; intro A W hx hf
    exact Q0j 10 tu25 rfl Q16 (q0 ?b67_2 A W 72 hf) rfl
    apply oc0; intro A W hx hf
    exact Q02 5 tu62 (k := 5) rfl Q0k rfl (o2 s12 e_w53 hx (r0 hf)) rfl
    apply oc0; intro A W hx hf
    exact Q09 tu3 rfl (q0 ?b67_4 A W 74 hf) rfl
    apply oc0; intro A W hx hf
    exact Q15 [(0, (.tmp 71)), (1, (.tmp 73)), (2, (.tmp 75))] [(0, _), (1, _), (2, _)] Qjs rfl (PartsC.agg (q0 ?b67_1 A W 71 hf) (PartsC.agg (q1 ?b67_3 A W 73 hf) (PartsC.one (q2 ?b67_5 A W 75 hf) rfl (PartsC.nil)))) (by simp [(Q3u (l.drop (pkA l))).1, (Q3u (l.drop (pkA l))).2])
    exact onn
   case t67 => exact inferInstance
   clear hr; intro a68 w68 x hr hd hs
   revert s7; revert s6; revert s9; revert s3; revert s2; revert s5; refine kp6 hs rfl ?_; intro s5 s2 s3 s9 s6 s7
   revert s8; refine kp1 hs rfl ?_; intro s8
   clear s12
   have s76 := fa ?b67_6 a68 w68 76 (hd 6 76 rfl)
   replace e_w := e_w.trans x
   replace e_w53 := e_w53.trans x
   replace e_w62 := e_w62.trans x
   replace e_w64 := e_w64.trans x
   have e_w66 := x
   replace m27 := m27.tr hs rfl; clear hd hs x
   have z69 := PxS.lt (Q00 e_w53 s9)
   have l69 := (show (g23_9 = 0 ∨ w.heap.size < g23_9) ∧ True from ⟨by omega, trivial⟩)
   have l69_2 := PxS.lt (Q00 e_w53 s2)
   have l69_3 := PxS.lt (Q00 e_w53 s3)
   have l69_gL := OwnRA.lt (Q00 e_w53 gL)
   refine Q19 (tupS (⟨(pkN l).1.src, (pkN l).1.dst, (pkN l).1.proto, 0, 0⟩ : TupL)) hr Q3f (Q00 e_w53 s9) (Is.conv s76 (show _ = TupV (⟨(pkN l).1.src, (pkN l).1.dst, (pkN l).1.proto, 0, 0⟩ : TupL) from by rw [hq]; simp [TupV, tupS, Q49, Q0l, Q1h])) (by exact Q4m ⟨hs16, hd16⟩) (by exact Q6u) rfl ?_; clear hr; intro a69 w69 hc hu hr hs
   have hb : Below w.heap.size w68 w69 := hc.below e_w.size l69.1
   revert s7; revert s6; revert s9; revert s3; revert s2; revert s5; refine kp6 hs rfl ?_; intro s5 s2 s3 s9 s6 s7
   revert s8; refine kp1 hs rfl ?_; intro s8
   clear s76
   replace s2 := PxS.other (Q00 e_w53 s2) hc (by omega)
   replace s3 := PxS.other (Q00 e_w53 s3) hc (by omega)
   replace s9 := hu _ _ _ (Q00 e_w53 s9)
   try simp only [List.set_cons_zero, List.set_cons_succ, lnkS, Q1y, Q1h] at s9
   replace gL := OwnRA.other (Q00 e_w53 gL) hc (by omega)
   replace e_w := e_w.below (Nat.le_refl _) hb
   clear e_w53
   clear e_w62
   clear e_w64
   clear e_w66
   replace s6 := anyw (w2 := w69) s6
   replace s7 := anyw (w2 := w69) s7
   replace s8 := anyw (w2 := w69) s8
   replace m27 := m27.tr hs rfl
   clear hu hs hc hb
   refine wpList_nil ?_
   refine et ?_
   refine ⟨hr, m27, e_w, (by first | assumption | omega), (by first | assumption | omega), ?_, ?_, ?_, ?_, ?_, ?_⟩
   · exact s2
   · exact s3
   · exact Is.conv s6 (by rw [hq])
   · exact Is.conv s7 (by rw [hq])
   · exact Is.conv s8 (by rw [hq])
   · exact s9
  have ht2 : ¬ ((Q0f l).1.type = 2048 ∨ (Q0f l).1.type = 34525) := by simp at hk2; omega
  have hp : Q0y l = give 2 := by unfold Q0y; rw [if_neg (by rw [he]; decide)]; rw [if_pos ht2]
  refine sq ?_
  refine Q05 (l := [_]) (rest := [_]) 122 [[]] [?b70_0] hr ?t70 ?o70 ?_
  case o70 =>
   apply oc0; intro A W hx hf
   exact Q15 [(0, (.const (.int .i64 2)))] [(0, _)] Qb1 rfl (PartsC.one (ec A (.int .i64 2)) rfl (PartsC.nil)) (by first | rfl | simp [Q0l, *])
   exact onn
  case t70 => exact inferInstance
  clear hr; intro a71 w71 x hr hd hs
  revert s2; refine kp1 hs rfl ?_; intro s2
  clear s5 s3 s9 s55
  have s77 := fa ?b70_0 a71 w71 77 (hd 0 77 rfl)
  replace e_w := e_w.trans x
  replace e_w24 := e_w24.trans x
  replace m27 := m27.tr hs rfl; clear hd hs x
  have z72 := PxS.lt (Q00 e_w24 s2)
  have l72 := (show (g2_2 = 0 ∨ w.heap.size < g2_2) ∧ True from ⟨by omega, trivial⟩)
  have l72_gL := OwnRA.lt (Q00 e_w24 gL)
  refine Q0b hr Q35 (Q00 e_w24 s2) (Is.conv s77 (show _ = Value.agg (pktS (give 2)).flatten.toArray from rfl)) (by exact Q56 (Q5p _)) (by exact Q4r) rfl ?_; clear hr; intro a72 w72 hc hu hr hs
  have hb : Below w.heap.size w71 w72 := hc.below e_w.size l72.1
  revert s2; refine kp1 hs rfl ?_; intro s2
  clear s77
  replace s2 := hu _ _ _ (Q00 e_w24 s2)
  try simp only [List.set_cons_zero, List.set_cons_succ, lnkS, Q1y, Q1h] at s2
  replace gL := OwnRA.other (Q00 e_w24 gL) hc (by omega)
  replace e_w := e_w.below (Nat.le_refl _) hb
  clear e_w24
  replace m27 := m27.tr hs rfl
  clear hu hs hc hb
  refine wpList_nil ?_
  refine et ?_
  refine wp_ret ?_
  refine Q0d ?_
  refine Q2l Try.results14 hr tu37 rfl Q35 s2 e_w ?_
  first | exact rfl | (show _ = PktV (Q0y l); rw [hp]; rfl)
 intro a27 w27 hI
 clear e_w
 clear e_w24
 clear hr; obtain ⟨hr, hs, e_w, hN, ht, u2, u3, u6, u7, u8, u9⟩ := hI
 revert s5; refine kp1 hs rfl ?_; intro s5
 clear s2 s3 s9 s31
 have s2 := u2; clear u2
 have s3 := u3; clear u3
 have s6 := u6; clear u6
 have s7 := u7; clear u7
 have s8 := u8; clear u8
 have s9 := u9; clear u9
 clear hs
 refine sq ?_
 refine sq ?_
 refine Q04 122 [[(8, none)]] [?b73_0] Q07 hr ?t73 ?o73 ?_
 case o73 =>
  apply oc0; intro A W hx hf
  exact Q01 (a0 := a27) (r0 hf)
  exact onn
 case t73 => exact inferInstance
 clear hr; intro a74 w74 x hr hd hs
 have u78 := mv s8 (fa ?b73_0 a74 w74 78 (hd 0 78 rfl))
 revert s9; revert s7; revert s6; revert s3; revert s2; revert s5; refine kp6 hs rfl ?_; intro s5 s2 s3 s6 s7 s9
 clear s8
 have s78 := u78; clear u78
 replace e_w := e_w.trans x
 have e_w27 := x; clear hd hs x
 refine et ?_
 refine wp_cond_split (show _ = _ from s78) (fun hfr => ?_) (fun hfr => ?_)
 ·
  have hfr : (pkN l).1.frag = true := by simpa using hfr
  have hp : Q0y l = give 4 := by unfold Q0y; rw [if_neg (by rw [he]; decide)]; rw [if_neg (not_not_intro ht)]; rw [if_neg (by rw [hN]; decide)]; rw [if_pos hfr]
  refine sq ?_
  refine Q05 (l := [_]) (rest := [_]) 122 [[]] [?b76_0] hr ?t76 ?o76 ?_
  case o76 =>
   apply oc0; intro A W hx hf
   exact Q15 [(0, (.const (.int .i64 4)))] [(0, _)] Qb1 rfl (PartsC.one (ec A (.int .i64 4)) rfl (PartsC.nil)) (by first | rfl | simp [Q0l, *])
   exact onn
  case t76 => exact inferInstance
  clear hr; intro a77 w77 x hr hd hs
  revert s2; refine kp1 hs rfl ?_; intro s2
  clear s5 s3 s6 s7 s9 s78
  have s79 := fa ?b76_0 a77 w77 79 (hd 0 79 rfl)
  replace e_w := e_w.trans x
  replace e_w27 := e_w27.trans x; clear hd hs x
  have z78 := PxS.lt (Q00 e_w27 s2)
  have l78 := (show (g2_2 = 0 ∨ w.heap.size < g2_2) ∧ True from ⟨by omega, trivial⟩)
  refine Q0b hr Q35 (Q00 e_w27 s2) (Is.conv s79 (show _ = Value.agg (pktS (give 4)).flatten.toArray from rfl)) (by exact Q56 (Q5p _)) (by exact Q4r) rfl ?_; clear hr; intro a78 w78 hc hu hr hs
  have hb : Below w.heap.size w77 w78 := hc.below e_w.size l78.1
  revert s2; refine kp1 hs rfl ?_; intro s2
  clear s79
  replace s2 := hu _ _ _ (Q00 e_w27 s2)
  try simp only [List.set_cons_zero, List.set_cons_succ, lnkS, Q1y, Q1h] at s2
  replace e_w := e_w.below (Nat.le_refl _) hb
  clear e_w27
  clear hu hs hc hb
  refine wpList_nil ?_
  refine et ?_
  refine wp_ret ?_
  refine Q0d ?_
  refine Q2l Try.results14 hr tu37 rfl Q35 s2 e_w ?_
  first | exact rfl | (show _ = PktV (Q0y l); rw [hp]; rfl)
 have hfr : (pkN l).1.frag = false := by simpa using hfr
 refine wp_skip ?_
 refine es ?_
 refine sq ?_
 refine Q04 122 [[(9, none)], [(80, some 0)], [(81, some 1)], [(82, some 2)], [(9, none), (83, some 3)], [(84, some 4), (83, some 3)], [(85, some 5), (83, some 3)], [(83, some 3), (86, some 6)]] [?b79_0, ?b79_1, ?b79_2, ?b79_2, ?b79_4, ?b79_5, ?b79_6, ?b79_7] Q07 hr ?t79 ?o79 ?_
 case o79 =>
  apply oc0; intro A W hx hf
  exact Q02 4 tu35 (k := 2) rfl Q0k rfl (o2 s9 e_w27 hx (r0 hf)) rfl
  apply oc0; intro A W hx hf
  exact Q09 tu3 rfl (q0 ?b79_0 A W 80 hf) rfl
  apply oc0; intro A W hx hf
  exact Q2h (q0 ?b79_1 A W 81 hf) (ec A (.int .i64 6))
  apply oc0; intro A W hx hf
  exact Q0p (q0 ?b79_2 A W 82 hf)
  refine ocg 83 ?_ (fun A W hx hf => ?_) ?_
  rfl
  exact gd_t (q1 ?b79_2 A W 83 hf) (fun hc => Q02 4 tu35 (k := 2) rfl Q0k rfl (o2 s9 e_w27 hx (r0 hf)) rfl)
  refine ocg 83 ?_ (fun A W hx hf => ?_) ?_
  rfl
  exact gd_t (q1 ?b79_2 A W 83 hf) (fun hc => Q09 tu3 rfl (G.get (q0 ?b79_4 A W 84 hf) hc) rfl)
  refine ocg 83 ?_ (fun A W hx hf => ?_) ?_
  rfl
  exact gd_t (q1 ?b79_2 A W 83 hf) (fun hc => Q2h (G.get (q0 ?b79_5 A W 85 hf) hc) (ec A (.int .i64 17)))
  apply oc0; intro A W hx hf
  exact Q2s (q0 ?b79_2 A W 83 hf) (q1 ?b79_6 A W 86 hf)
  exact onn
 case t79 => exact inferInstance
 clear hr; intro a80 w80 x hr hd hs
 revert s9; revert s7; revert s6; revert s3; revert s2; revert s5; refine kp6 hs rfl ?_; intro s5 s2 s3 s6 s7 s9
 clear s78
 have s87 := fa ?b79_7 a80 w80 87 (hd 7 87 rfl)
 replace e_w := e_w.trans x
 replace e_w27 := e_w27.trans x; clear hd hs x
 refine et ?_
 refine wp_cond_split (show _ = _ from s87) (fun hca => ?_) (fun hca => ?_)
 ·
  have hca0 : Q4f (pkN l).1.proto = false := by unfold Q4f; simpa using hca
  have hp : Q0y l = give 5 := by unfold Q0y; rw [if_neg (by rw [he]; decide)]; rw [if_neg (not_not_intro ht)]; rw [if_neg (by rw [hN]; decide)]; rw [if_neg (by rw [hfr]; decide)]; rw [if_pos hca0]
  refine sq ?_
  refine Q05 (l := [_]) (rest := [_]) 122 [[]] [?b82_0] hr ?t82 ?o82 ?_
  case o82 =>
   apply oc0; intro A W hx hf
   exact Q15 [(0, (.const (.int .i64 5)))] [(0, _)] Qb1 rfl (PartsC.one (ec A (.int .i64 5)) rfl (PartsC.nil)) (by first | rfl | simp [Q0l, *])
   exact onn
  case t82 => exact inferInstance
  clear hr; intro a83 w83 x hr hd hs
  revert s2; refine kp1 hs rfl ?_; intro s2
  clear s5 s3 s6 s7 s9 s87
  have s88 := fa ?b82_0 a83 w83 88 (hd 0 88 rfl)
  replace e_w := e_w.trans x
  replace e_w27 := e_w27.trans x; clear hd hs x
  have z84 := PxS.lt (Q00 e_w27 s2)
  have l84 := (show (g2_2 = 0 ∨ w.heap.size < g2_2) ∧ True from ⟨by omega, trivial⟩)
  refine Q0b hr Q35 (Q00 e_w27 s2) (Is.conv s88 (show _ = Value.agg (pktS (give 5)).flatten.toArray from rfl)) (by exact Q56 (Q5p _)) (by exact Q4r) rfl ?_; clear hr; intro a84 w84 hc hu hr hs
  have hb : Below w.heap.size w83 w84 := hc.below e_w.size l84.1
  revert s2; refine kp1 hs rfl ?_; intro s2
  clear s88
  replace s2 := hu _ _ _ (Q00 e_w27 s2)
  try simp only [List.set_cons_zero, List.set_cons_succ, lnkS, Q1y, Q1h] at s2
  replace e_w := e_w.below (Nat.le_refl _) hb
  clear e_w27
  clear hu hs hc hb
  refine wpList_nil ?_
  refine et ?_
  refine wp_ret ?_
  refine Q0d ?_
  refine Q2l Try.results14 hr tu37 rfl Q35 s2 e_w ?_
  first | exact rfl | (show _ = PktV (Q0y l); rw [hp]; rfl)
 have hca : Q4f (pkN l).1.proto = true := by unfold Q4f; revert hca; by_cases a6 : (pkN l).1.proto = 6 <;> by_cases a17 : (pkN l).1.proto = 17 <;> simp [a6, a17]
 obtain ⟨z1, z2, z3⟩ : 20 ≤ (pkN l).1.head ∧ (pkN l).1.head ≤ (pkN l).1.total ∧ (pkN l).1.total ≤ ((l.drop (pkA l)).length : Int) := Qdo hN
 have z4 := z3
 rw [List.length_drop] at z4
 have hsub : subl (l.drop (pkA l)) (pkN l).1.head.toNat (pkN l).1.total.toNat = pkP l := by unfold subl pkP subl; rw [List.take_drop, List.drop_drop]
 refine wp_skip ?_
 refine es ?_
 refine Q2k (fun A W => ∃ (ε : Nat), Fr 122 A ∧ Same Q7s a80 A ∧ Ext w W ∧ (g2_2 ≠ ε) ∧ (g5_3 ≠ ε) ∧ (g23_9 ≠ ε) ∧ (PxS g2_2 w.heap.size [42] [(pktS (give 0)).flatten] 0) (A.eval (.tmp 2)) W ∧ (PxS g5_3 w.heap.size [6, 6, 1, 1, 1] (lnkS (Q0f l).1 sv12) 0) (A.eval (.tmp 3)) W ∧ (PxS g23_9 w.heap.size [1, 16, 1, 16, 1, 1, 1] (tupS (⟨(pkN l).1.src, (pkN l).1.dst, (pkN l).1.proto, 0, 0⟩ : TupL)) 0) (A.eval (.tmp 9)) W ∧ (PxS ε w.heap.size [1, 1, 1, 1, 1] (Q2e (Q0m (pkN l).1.proto (pkP l)).1) 0) (A.eval (.tmp 14)) W ∧ (Is (.int .i64 (Q0m (pkN l).1.proto (pkP l)).2)) (A.eval (.tmp 15)) W) ?cut85 ?_
 case cut85 =>
  have m85 : Same Q7s a80 a80 := Same.rfl
  refine Q3k (fun W => Below w.heap.size w W ∧ BlkS g23_9 [1, 16, 1, 16, 1, 1, 1] _ W) Q07 (fun w' x => ⟨(e_w.trans x), PxS.blkS (Q00 (e_w27.trans x) s9)⟩) (fun w86 x _ => ?_)
  show wpAnyH _ _ _ _ _ 13 _ _ _
  replace e_w := e_w.trans x
  replace e_w27 := e_w27.trans x
  have e_w80 := x
  clear x
  refine Q0r (i := 0) hr rfl (by decide) (by kernel_rfl) (fun _ _ _ _ h => h) (yh (Q1k (Q02 4 tu35 (k := 2) rfl Q0k rfl (Q00 e_w27 s9) rfl) (Q3l tu35 (k := 2) rfl Q0k rfl (PxS.cells (Q00 e_w27 s9))))) ⟨e_w, PxS.blkS (Q00 e_w27 s9)⟩ ?_; clear hr; intro a87 hr hd hs
  revert s9; revert s7; revert s6; revert s3; revert s2; revert s5; refine kp6 hs rfl ?_; intro s5 s2 s3 s6 s7 s9
  clear s87
  have s90 := hd
  replace m85 := m85.tr hs rfl
  clear hd hs
  refine Q0r (i := 1) hr rfl (by decide) (by kernel_rfl) (fun _ _ _ _ h => h) (Q45 tu3 rfl s90 (fun W hW => hW.2) rfl) ⟨e_w, PxS.blkS (Q00 e_w27 s9)⟩ ?_; clear hr; intro a88 hr hd hs
  revert s9; revert s7; revert s6; revert s3; revert s2; revert s5; refine kp6 hs rfl ?_; intro s5 s2 s3 s6 s7 s9
  clear s90
  have s91 := hd
  replace m85 := m85.tr hs rfl
  clear hd hs
  refine Q0r (i := 2) hr rfl (by decide) (by kernel_rfl) (fun _ _ _ _ h => h) (yh (Q1k (Q0p (show AtW w _ _ _ from s5)) (Q2m))) ⟨e_w, PxS.blkS (Q00 e_w27 s9)⟩ ?_; clear hr; intro a89 hr hd hs
  revert s91; revert s9; revert s7; revert s6; revert s3; revert s2; refine kp6 hs rfl ?_; intro s2 s3 s6 s7 s9 s91
  clear s5
  have s92 := AtW.base hd
  replace m85 := m85.tr hs rfl
  clear hd hs
  refine Q0r (i := 3) hr rfl (by decide) (by kernel_rfl) (fun _ _ _ _ h => h) (yh (Q1k (Q0p (Q00 e_w27 s6)) (Q2m))) ⟨e_w, PxS.blkS (Q00 e_w27 s9)⟩ ?_; clear hr; intro a90 hr hd hs
  revert s91; revert s9; revert s7; revert s6; revert s3; revert s2; refine kp6 hs rfl ?_; intro s2 s3 s6 s7 s9 s91
  revert s92; refine kp1 hs rfl ?_; intro s92
  have s93 := hd
  replace m85 := m85.tr hs rfl
  clear hd hs
  refine Q0r (i := 4) hr rfl (by decide) (by kernel_rfl) (fun _ _ _ _ h => h) (yh (Q1k (Q0p (Q00 e_w27 s7)) (Q2m))) ⟨e_w, PxS.blkS (Q00 e_w27 s9)⟩ ?_; clear hr; intro a91 hr hd hs
  revert s91; revert s9; revert s7; revert s6; revert s3; revert s2; refine kp6 hs rfl ?_; intro s2 s3 s6 s7 s9 s91
  revert s93; revert s92; refine kp2 hs rfl ?_; intro s92 s93
  have s94 := hd
  replace m85 := m85.tr hs rfl
  clear hd hs
  refine Q0r (i := 5) hr rfl (by decide) (by kernel_rfl) (fun _ _ _ _ h => h) (yh (Q1k (Q39 ((pkN l).1.head.toNat) ((pkN l).1.total.toNat) tu22 Q0i (Q00 e_w s92) (Is.int s93 (by omega)) (Is.int s94 (by omega)) (by omega) (by omega)) (Q9c ((pkN l).1.head.toNat) ((pkN l).1.total.toNat) tu22 Q0i (Q00 e_w s92) (Is.int s93 (by omega)) (Is.int s94 (by omega)) (by omega) (by omega)))) ⟨e_w, PxS.blkS (Q00 e_w27 s9)⟩ ?_; clear hr; intro a92 hr hd hs
  revert s91; revert s9; revert s7; revert s6; revert s3; revert s2; refine kp6 hs rfl ?_; intro s2 s3 s6 s7 s9 s91
  clear s92 s93 s94
  have s95 := hd
  replace m85 := m85.tr hs rfl
  clear hd hs
  refine Q7f (i := 6) (j := 10) (by kernel_rfl) rfl rfl ?_ ?_
  ·
   refine Q10 hr (Q0t Qi3 (Q9p s91 s95)) inferInstance ?_; clear hr; intro a93 w93 x hr hd hs
   revert s9; revert s7; revert s6; revert s3; revert s2; refine kp5 hs rfl ?_; intro s2 s3 s6 s7 s9
   clear s91 s95
   have s96 := hd 96 rfl (by decide)
   replace e_w := e_w.trans x
   replace e_w27 := e_w27.trans x
   clear e_w80
   replace m85 := m85.tr hs rfl; clear hd hs x
   refine Q1p ⟨e_w, PxS.blkS (Q00 e_w27 s9)⟩ ?_
   refine Q0r (i := 7) hr rfl (by decide) (by kernel_rfl) (fun _ _ _ _ h => h) (yh (Q1k (Q0p s96) (Q2m))) ⟨e_w, PxS.blkS (Q00 e_w27 s9)⟩ ?_; clear hr; intro a94 hr hd hs
   revert s9; revert s7; revert s6; revert s3; revert s2; refine kp5 hs rfl ?_; intro s2 s3 s6 s7 s9
   clear s96
   have s89 := hd
   replace m85 := m85.tr hs rfl
   clear hd hs
   refine Q0r (i := 8) hr rfl (by decide) (by kernel_rfl) (fun _ _ _ _ h => h) (yh (Q1k (Q2a s89) (Q2r rfl s89))) ⟨e_w, PxS.blkS (Q00 e_w27 s9)⟩ ?_; clear hr; intro a95 hr hd hs
   revert s89; revert s9; revert s7; revert s6; revert s3; revert s2; refine kp6 hs rfl ?_; intro s2 s3 s6 s7 s9 s89
   have s97 := hd
   replace m85 := m85.tr hs rfl
   clear hd hs
   refine Q0r (i := 9) hr rfl (by decide) (by kernel_rfl) (fun _ _ _ _ h => h) (yh (Q1k (Q2b s89) (Q2r rfl s89))) ⟨e_w, PxS.blkS (Q00 e_w27 s9)⟩ ?_; clear hr; intro a96 hr hd hs
   revert s97; revert s9; revert s7; revert s6; revert s3; revert s2; refine kp6 hs rfl ?_; intro s2 s3 s6 s7 s9 s97
   clear s89
   have s98 := hd
   replace m85 := m85.tr hs rfl
   clear hd hs
   refine Q1r (i := 10) (by kernel_rfl) rfl ?_
   ·
    have l97_2 := PxS.lt (Q00 e_w27 s2)
    have l97_3 := PxS.lt (Q00 e_w27 s3)
    have l97_9 := PxS.lt (Q00 e_w27 s9)
    refine Q10 hr (Q0v (Q2e Q2w) [1, 1, 1, 1, 1] Q4q (by rfl) (by rfl) (Nat.le_refl _)) inferInstance ?_; clear hr; intro a97 w97 x hr hd hs
    revert s97; revert s9; revert s7; revert s6; revert s3; revert s2; refine kp6 hs rfl ?_; intro s2 s3 s6 s7 s9 s97
    revert s98; refine kp1 hs rfl ?_; intro s98
    have s14 := hd 14 rfl (by decide)
    obtain ⟨g97_14, q97_14⟩ := PxN.at s14; clear s14; have n97_14 := PxS.lt q97_14
    replace q97_14 := PxS.mono q97_14 e_w.size
    have s14 := q97_14; clear q97_14
    replace e_w := e_w.trans x
    replace e_w27 := e_w27.trans x
    have e_w93 := x
    replace m85 := m85.tr hs rfl; clear hd hs x
    refine Q1p ⟨e_w, PxS.blkS (Q00 e_w27 s9)⟩ ?_
    refine Q1r (i := 11) (by kernel_rfl) rfl ?_
    ·
     have z98 := PxS.lt s14
     have l98 := (show (g97_14 = 0 ∨ w.heap.size < g97_14) ∧ True from ⟨by omega, trivial⟩)
     have l98_2 := PxS.lt (Q00 e_w27 s2)
     have l98_3 := PxS.lt (Q00 e_w27 s3)
     have l98_9 := PxS.lt (Q00 e_w27 s9)
     refine Q19 (Q2e (Q0m (pkN l).1.proto (subl (l.drop (pkA l)) (pkN l).1.head.toNat (pkN l).1.total.toNat)).1) hr Q1n s14 (Q00 e_w93 s97) (by rfl) (by exact Q1q) rfl ?_; clear hr; intro a98 w98 hc hu hr hs
     have hb : Below w.heap.size w97 w98 := hc.below e_w.size l98.1
     revert s98; revert s9; revert s7; revert s6; revert s3; revert s2; refine kp6 hs rfl ?_; intro s2 s3 s6 s7 s9 s98
     revert s14; refine kp1 hs rfl ?_; intro s14
     clear s97
     replace s2 := PxS.other (Q00 e_w27 s2) hc (by omega)
     replace s3 := PxS.other (Q00 e_w27 s3) hc (by omega)
     replace s9 := PxS.other (Q00 e_w27 s9) hc (by omega)
     replace s14 := hu _ _ _ s14
     try simp only [List.set_cons_zero, List.set_cons_succ, lnkS, Q1y, Q1h] at s14
     replace e_w := e_w.below (Nat.le_refl _) hb
     clear e_w27
     clear e_w93
     replace s6 := anyw (w2 := w98) s6
     replace s7 := anyw (w2 := w98) s7
     replace s98 := anyw (w2 := w98) s98
     replace m85 := m85.tr hs rfl
     clear hu hs hc hb
     refine Q1p ⟨e_w, PxS.blkS s9⟩ ?_
     refine Q0r (i := 12) hr rfl (by decide) (by kernel_rfl) (fun _ _ _ _ h => h) (yh (Q1k (Q03 s98) (Q2o))) ⟨e_w, PxS.blkS s9⟩ ?_; clear hr; intro a99 hr hd hs
     revert s7; revert s6; revert s14; revert s9; revert s3; revert s2; refine kp6 hs rfl ?_; intro s2 s3 s9 s14 s6 s7
     clear s98
     have s15 := hd
     replace m85 := m85.tr hs rfl
     clear hd hs
     refine Q34 (by kernel_rfl) ?_
     refine et ?_
     refine ⟨g97_14, hr, m85, e_w, (by first | assumption | omega), (by first | assumption | omega), (by first | assumption | omega), ?_, ?_, ?_, ?_, ?_⟩
     · exact s2
     · exact s3
     · exact s9
     · exact PxS.cast s14 (by rw [hsub])
     · exact Is.int s15 (by rw [hsub])
  ·
   have l100_2 := PxS.lt (Q00 e_w27 s2)
   have l100_3 := PxS.lt (Q00 e_w27 s3)
   have l100_9 := PxS.lt (Q00 e_w27 s9)
   refine Q10 hr (Q0v (Q2e Q2w) [1, 1, 1, 1, 1] Q4q (by rfl) (by rfl) (Nat.le_refl _)) inferInstance ?_; clear hr; intro a100 w100 x hr hd hs
   revert s91; revert s9; revert s7; revert s6; revert s3; revert s2; refine kp6 hs rfl ?_; intro s2 s3 s6 s7 s9 s91
   revert s95; refine kp1 hs rfl ?_; intro s95
   have s14 := hd 14 rfl (by decide)
   obtain ⟨g100_14, q100_14⟩ := PxN.at s14; clear s14; have n100_14 := PxS.lt q100_14
   replace q100_14 := PxS.mono q100_14 e_w.size
   have s14 := q100_14; clear q100_14
   replace e_w := e_w.trans x
   replace e_w27 := e_w27.trans x
   clear e_w80
   have e_w86 := x
   replace m85 := m85.tr hs rfl; clear hd hs x
   refine Q1p ⟨e_w, PxS.blkS (Q00 e_w27 s9)⟩ ?_
   refine Q1r (i := 6) (by kernel_rfl) rfl ?_
   ·
    refine Q10 hr (Q0t Qi3 (Q9p (Q00 e_w86 s91) (Q00 e_w86 s95))) inferInstance ?_; clear hr; intro a101 w101 x hr hd hs
    revert s14; revert s9; revert s7; revert s6; revert s3; revert s2; refine kp6 hs rfl ?_; intro s2 s3 s6 s7 s9 s14
    clear s91 s95
    have s96 := hd 96 rfl (by decide)
    replace e_w := e_w.trans x
    replace e_w27 := e_w27.trans x
    clear e_w86
    have e_w100 := x
    replace m85 := m85.tr hs rfl; clear hd hs x
    refine Q1p ⟨e_w, PxS.blkS (Q00 e_w27 s9)⟩ ?_
    refine Q0r (i := 7) hr rfl (by decide) (by kernel_rfl) (fun _ _ _ _ h => h) (yh (Q1k (Q0p s96) (Q2m))) ⟨e_w, PxS.blkS (Q00 e_w27 s9)⟩ ?_; clear hr; intro a102 hr hd hs
    revert s14; revert s9; revert s7; revert s6; revert s3; revert s2; refine kp6 hs rfl ?_; intro s2 s3 s6 s7 s9 s14
    clear s96
    have s89 := hd
    replace m85 := m85.tr hs rfl
    clear hd hs
    refine Q0r (i := 8) hr rfl (by decide) (by kernel_rfl) (fun _ _ _ _ h => h) (yh (Q1k (Q2a s89) (Q2r rfl s89))) ⟨e_w, PxS.blkS (Q00 e_w27 s9)⟩ ?_; clear hr; intro a103 hr hd hs
    revert s14; revert s9; revert s7; revert s6; revert s3; revert s2; refine kp6 hs rfl ?_; intro s2 s3 s6 s7 s9 s14
    revert s89; refine kp1 hs rfl ?_; intro s89
    have s97 := hd
    replace m85 := m85.tr hs rfl
    clear hd hs
    refine Q0r (i := 9) hr rfl (by decide) (by kernel_rfl) (fun _ _ _ _ h => h) (yh (Q1k (Q2b s89) (Q2r rfl s89))) ⟨e_w, PxS.blkS (Q00 e_w27 s9)⟩ ?_; clear hr; intro a104 hr hd hs
    revert s14; revert s9; revert s7; revert s6; revert s3; revert s2; refine kp6 hs rfl ?_; intro s2 s3 s6 s7 s9 s14
    revert s97; refine kp1 hs rfl ?_; intro s97
    clear s89
    have s98 := hd
    replace m85 := m85.tr hs rfl
    clear hd hs
    refine Q1r (i := 11) (by kernel_rfl) rfl ?_
    ·
     have z105 := PxS.lt (Q00 e_w100 s14)
     have l105 := (show (g100_14 = 0 ∨ w.heap.size < g100_14) ∧ True from ⟨by omega, trivial⟩)
     have l105_2 := PxS.lt (Q00 e_w27 s2)
     have l105_3 := PxS.lt (Q00 e_w27 s3)
     have l105_9 := PxS.lt (Q00 e_w27 s9)
     refine Q19 (Q2e (Q0m (pkN l).1.proto (subl (l.drop (pkA l)) (pkN l).1.head.toNat (pkN l).1.total.toNat)).1) hr Q1n (Q00 e_w100 s14) s97 (by rfl) (by exact Q1q) rfl ?_; clear hr; intro a105 w105 hc hu hr hs
     have hb : Below w.heap.size w101 w105 := hc.below e_w.size l105.1
     revert s14; revert s9; revert s7; revert s6; revert s3; revert s2; refine kp6 hs rfl ?_; intro s2 s3 s6 s7 s9 s14
     revert s98; refine kp1 hs rfl ?_; intro s98
     clear s97
     replace s2 := PxS.other (Q00 e_w27 s2) hc (by omega)
     replace s3 := PxS.other (Q00 e_w27 s3) hc (by omega)
     replace s9 := PxS.other (Q00 e_w27 s9) hc (by omega)
     replace s14 := hu _ _ _ (Q00 e_w100 s14)
     try simp only [List.set_cons_zero, List.set_cons_succ, lnkS, Q1y, Q1h] at s14
     replace e_w := e_w.below (Nat.le_refl _) hb
     clear e_w27
     clear e_w100
     replace s6 := anyw (w2 := w105) s6
     replace s7 := anyw (w2 := w105) s7
     replace s98 := anyw (w2 := w105) s98
     replace m85 := m85.tr hs rfl
     clear hu hs hc hb
     refine Q1p ⟨e_w, PxS.blkS s9⟩ ?_
     refine Q0r (i := 12) hr rfl (by decide) (by kernel_rfl) (fun _ _ _ _ h => h) (yh (Q1k (Q03 s98) (Q2o))) ⟨e_w, PxS.blkS s9⟩ ?_; clear hr; intro a106 hr hd hs
     revert s7; revert s6; revert s14; revert s9; revert s3; revert s2; refine kp6 hs rfl ?_; intro s2 s3 s9 s14 s6 s7
     clear s98
     have s15 := hd
     replace m85 := m85.tr hs rfl
     clear hd hs
     refine Q34 (by kernel_rfl) ?_
     refine et ?_
     refine ⟨g100_14, hr, m85, e_w, (by first | assumption | omega), (by first | assumption | omega), (by first | assumption | omega), ?_, ?_, ?_, ?_, ?_⟩
     · exact s2
     · exact s3
     · exact s9
     · exact PxS.cast s14 (by rw [hsub])
     · exact Is.int s15 (by rw [hsub])
 intro a85 w85 hI
 clear e_w
 clear e_w27
 clear hr; obtain ⟨ε, hr, hs, e_w, e2, e3, e9, u2, u3, u9, u14, u15⟩ := hI
 revert s7; revert s6; refine kp2 hs rfl ?_; intro s6 s7
 clear s5 s2 s3 s9 s87
 have s2 := u2; clear u2
 have s3 := u3; clear u3
 have s9 := u9; clear u9
 have s14 := u14; clear u14
 have s15 := u15; clear u15
 replace s6 := anyw (w2 := w85) s6
 replace s7 := anyw (w2 := w85) s7
 clear hs
 refine sq ?_
 refine sq ?_
 refine Q04 122 [[(15, none)], [(99, some 0)]] [?b107_0, ?b107_1] Q07 hr ?t107 ?o107 ?_
 case o107 =>
  apply oc0; intro A W hx hf
  exact Q01 (a0 := a85) (r0 hf)
  apply oc0; intro A W hx hf
  exact Q2h (p1 s15 hx (q0 ?b107_0 A W 99 hf)) (ec A (.int .i64 0))
  exact onn
 case t107 => exact inferInstance
 clear hr; intro a108 w108 x hr hd hs
 revert s7; revert s6; revert s14; revert s9; revert s3; revert s2; refine kp6 hs rfl ?_; intro s2 s3 s9 s14 s6 s7
 clear s15
 have s100 := fa ?b107_1 a108 w108 100 (hd 1 100 rfl)
 replace e_w := e_w.trans x
 have e_w85 := x; clear hd hs x
 refine et ?_
 refine wp_cond_split (show _ = _ from s100) (fun hpe => ?_) (fun hpe => ?_)
 ·
  have hpe : (Q0m (pkN l).1.proto (pkP l)).2 ≠ 0 := by simpa using hpe
  have hp : Q0y l = give 6 := by unfold Q0y; rw [if_neg (by rw [he]; decide)]; rw [if_neg (not_not_intro ht)]; rw [if_neg (by rw [hN]; decide)]; rw [if_neg (by rw [hfr]; decide)]; rw [if_neg (by rw [hca]; decide)]; rw [if_pos hpe]
  refine sq ?_
  refine Q05 (l := [_]) (rest := [_]) 122 [[]] [?b110_0] hr ?t110 ?o110 ?_
  case o110 =>
   apply oc0; intro A W hx hf
   exact Q15 [(0, (.const (.int .i64 6)))] [(0, _)] Qb1 rfl (PartsC.one (ec A (.int .i64 6)) rfl (PartsC.nil)) (by first | rfl | simp [Q0l, *])
   exact onn
  case t110 => exact inferInstance
  clear hr; intro a111 w111 x hr hd hs
  revert s2; refine kp1 hs rfl ?_; intro s2
  clear s3 s9 s14 s6 s7 s100
  have s101 := fa ?b110_0 a111 w111 101 (hd 0 101 rfl)
  replace e_w := e_w.trans x
  replace e_w85 := e_w85.trans x; clear hd hs x
  have z112 := PxS.lt (Q00 e_w85 s2)
  have l112 := (show (g2_2 = 0 ∨ w.heap.size < g2_2) ∧ True from ⟨by omega, trivial⟩)
  refine Q0b hr Q35 (Q00 e_w85 s2) (Is.conv s101 (show _ = Value.agg (pktS (give 6)).flatten.toArray from rfl)) (by exact Q56 (Q5p _)) (by exact Q4r) rfl ?_; clear hr; intro a112 w112 hc hu hr hs
  have hb : Below w.heap.size w111 w112 := hc.below e_w.size l112.1
  revert s2; refine kp1 hs rfl ?_; intro s2
  clear s101
  replace s2 := hu _ _ _ (Q00 e_w85 s2)
  try simp only [List.set_cons_zero, List.set_cons_succ, lnkS, Q1y, Q1h] at s2
  replace e_w := e_w.below (Nat.le_refl _) hb
  clear e_w85
  clear hu hs hc hb
  refine wpList_nil ?_
  refine et ?_
  refine wp_ret ?_
  refine Q0d ?_
  refine Q2l Try.results14 hr tu37 rfl Q35 s2 e_w ?_
  first | exact rfl | (show _ = PktV (Q0y l); rw [hp]; rfl)
 have hpe : (Q0m (pkN l).1.proto (pkP l)).2 = 0 := by simpa using hpe
 have hp : Q0y l = ⟨0, (⟨(pkN l).1.src, (pkN l).1.dst, (pkN l).1.proto, (Q0m (pkN l).1.proto (pkP l)).1.sport, (Q0m (pkN l).1.proto (pkP l)).1.dport⟩ : TupL), (Q0m (pkN l).1.proto (pkP l)).1.flags, (Q0f l).1.at', (Q0f l).1.at' + (pkN l).1.head, (Q0f l).1.at' + (pkN l).1.total⟩ := by unfold Q0y; rw [if_neg (by rw [he]; decide)]; rw [if_neg (not_not_intro ht)]; rw [if_neg (by rw [hN]; decide)]; rw [if_neg (by rw [hfr]; decide)]; rw [if_neg (by rw [hca]; decide)]; rw [if_neg (by rw [hpe]; decide)]
 refine wp_skip ?_
 refine es ?_
 refine Q05 (l := [_, _, _]) (rest := [_]) 122 [[(14, none)], [(102, some 0)], [(9, none)]] [?b113_0, ?b113_1, ?b113_2] hr ?t113 ?o113 ?_
 case o113 =>
  apply oc0; intro A W hx hf
  exact Q02 0 tu66 (k := 0) rfl Q0k rfl (o2 s14 e_w85 hx (r0 hf)) rfl
  apply oc0; intro A W hx hf
  exact Q09 tu3 rfl (q0 ?b113_0 A W 102 hf) rfl
  apply oc0; intro A W hx hf
  exact Q02 5 tu35 (k := 3) rfl Q0k rfl (o2 s9 e_w85 hx (r0 hf)) rfl
  exact onn
 case t113 => exact inferInstance
 clear hr; intro a114 w114 x hr hd hs
 revert s7; revert s6; revert s14; revert s9; revert s3; revert s2; refine kp6 hs rfl ?_; intro s2 s3 s9 s14 s6 s7
 clear s100
 have s103 := fa ?b113_1 a114 w114 103 (hd 1 103 rfl)
 have s104 := fa ?b113_2 a114 w114 104 (hd 2 104 rfl)
 replace e_w := e_w.trans x
 replace e_w85 := e_w85.trans x; clear hd hs x
 have z115 := PxS.lt s104
 have l115 := (show (g23_9 = 0 ∨ w.heap.size < g23_9) ∧ True from ⟨by omega, trivial⟩)
 have l115_2 := PxS.lt (Q00 e_w85 s2)
 have l115_3 := PxS.lt (Q00 e_w85 s3)
 have l115_14 := PxS.lt (Q00 e_w85 s14)
 refine Q1g hr Q0k s104 s103 (by rfl) rfl ?_; clear hr; intro a115 w115 hc hu hr hs
 have hb : Below w.heap.size w114 w115 := hc.below e_w.size l115.1
 revert s7; revert s6; revert s14; revert s9; revert s3; revert s2; refine kp6 hs rfl ?_; intro s2 s3 s9 s14 s6 s7
 clear s103 s104
 replace s2 := PxS.other (Q00 e_w85 s2) hc (by omega)
 replace s3 := PxS.other (Q00 e_w85 s3) hc (by omega)
 replace s9 := hu _ _ _ (Q00 e_w85 s9)
 try simp only [List.set_cons_zero, List.set_cons_succ, lnkS, Q1y, Q1h] at s9
 replace s14 := PxS.other (Q00 e_w85 s14) hc (by omega)
 replace e_w := e_w.below (Nat.le_refl _) hb
 clear e_w85
 replace s6 := anyw (w2 := w115) s6
 replace s7 := anyw (w2 := w115) s7
 clear hu hs hc hb
 refine wpList_nil ?_
 refine es ?_
 refine Q05 (l := [_, _, _]) (rest := [_]) 122 [[(14, none)], [(105, some 0)], [(9, none)]] [?b116_0, ?b116_1, ?b116_2] hr ?t116 ?o116 ?_
 case o116 =>
  apply oc0; intro A W hx hf
  exact Q02 1 tu66 (k := 1) rfl Q0k rfl (o1 s14 hx (r0 hf)) rfl
  apply oc0; intro A W hx hf
  exact Q09 tu3 rfl (q0 ?b116_0 A W 105 hf) rfl
  apply oc0; intro A W hx hf
  exact Q02 6 tu35 (k := 4) rfl Q0k rfl (o1 s9 hx (r0 hf)) rfl
  exact onn
 case t116 => exact inferInstance
 clear hr; intro a117 w117 x hr hd hs
 revert s7; revert s6; revert s14; revert s9; revert s3; revert s2; refine kp6 hs rfl ?_; intro s2 s3 s9 s14 s6 s7
 have s106 := fa ?b116_1 a117 w117 106 (hd 1 106 rfl)
 have s107 := fa ?b116_2 a117 w117 107 (hd 2 107 rfl)
 replace e_w := e_w.trans x
 have e_w115 := x; clear hd hs x
 have z118 := PxS.lt s107
 have l118 := (show (g23_9 = 0 ∨ w.heap.size < g23_9) ∧ True from ⟨by omega, trivial⟩)
 have l118_2 := PxS.lt (Q00 e_w115 s2)
 have l118_3 := PxS.lt (Q00 e_w115 s3)
 have l118_14 := PxS.lt (Q00 e_w115 s14)
 refine Q1g hr Q0k s107 s106 (by rfl) rfl ?_; clear hr; intro a118 w118 hc hu hr hs
 have hb : Below w.heap.size w117 w118 := hc.below e_w.size l118.1
 revert s7; revert s6; revert s14; revert s9; revert s3; revert s2; refine kp6 hs rfl ?_; intro s2 s3 s9 s14 s6 s7
 clear s106 s107
 replace s2 := PxS.other (Q00 e_w115 s2) hc (by omega)
 replace s3 := PxS.other (Q00 e_w115 s3) hc (by omega)
 replace s9 := hu _ _ _ (Q00 e_w115 s9)
 try simp only [List.set_cons_zero, List.set_cons_succ, lnkS, Q1y, Q1h] at s9
 replace s14 := PxS.other (Q00 e_w115 s14) hc (by omega)
 replace e_w := e_w.below (Nat.le_refl _) hb
 clear e_w115
 replace s6 := anyw (w2 := w118) s6
 replace s7 := anyw (w2 := w118) s7
 clear hu hs hc hb
 refine wpList_nil ?_
 replace s9 := PxS.cast s9 (show _ = tupS (⟨(pkN l).1.src, (pkN l).1.dst, (pkN l).1.proto, (Q0m (pkN l).1.proto (pkP l)).1.sport, (Q0m (pkN l).1.proto (pkP l)).1.dport⟩ : TupL) from rfl)
 refine es ?_
 refine Q05 (l := [_, _, _, _, _, _, _, _, _, _, _, _, _, _]) (rest := [_]) 122 [[(9, none)], [(14, none)], [(109, some 1)], [(3, none)], [(111, some 3)], [(3, none)], [(113, some 5)], [(6, none)], [(114, some 6), (115, some 7)], [(3, none)], [(117, some 9)], [(7, none)], [(118, some 10), (119, some 11)], [(108, some 0), (110, some 2), (112, some 4), (116, some 8), (120, some 12)]] [?b119_0, ?b119_1, ?b119_2, ?b119_3, ?b119_4, ?b119_5, ?b119_6, ?b119_7, ?b119_8, ?b119_9, ?b119_10, ?b119_11, ?b119_12, ?b119_13] hr ?t119 ?o119 ?_
 case o119 =>
  apply oc0; intro A W hx hf
  exact Q0j 7 tu35 rfl Q3f (o1 s9 hx (r0 hf)) rfl
  apply oc0; intro A W hx hf
  exact Q02 2 tu66 (k := 2) rfl Q0k rfl (o1 s14 hx (r0 hf)) rfl
  apply oc0; intro A W hx hf
  exact Q09 tu3 rfl (q0 ?b119_1 A W 109 hf) rfl
  apply oc0; intro A W hx hf
  exact Q02 4 tu46 (k := 4) rfl Q0k rfl (o1 s3 hx (r0 hf)) rfl
  apply oc0; intro A W hx hf
  exact Q09 tu3 rfl (q0 ?b119_3 A W 111 hf) rfl
  apply oc0; intro A W hx hf
  exact Q02 4 tu46 (k := 4) rfl Q0k rfl (o1 s3 hx (r0 hf)) rfl
  apply oc0; intro A W hx hf
  exact Q09 tu3 rfl (q0 ?b119_5 A W 113 hf) rfl
  apply oc0; intro A W hx hf
  exact Q01 (a0 := a118) (r0 hf)
  apply oc0; intro A W hx hf
  exact Q0h (q0 ?b119_6 A W 114 hf) (p1 s6 hx (q1 ?b119_7 A W 115 hf)) (by show (-9223372036854775808 : Int) ≤ (Q0f l).1.at' + (pkN l).1.head ∧ (Q0f l).1.at' + (pkN l).1.head ≤ 9223372036854775807; omega)
  apply oc0; intro A W hx hf
  exact Q02 4 tu46 (k := 4) rfl Q0k rfl (o1 s3 hx (r0 hf)) rfl
  apply oc0; intro A W hx hf
  exact Q09 tu3 rfl (q0 ?b119_9 A W 117 hf) rfl
  apply oc0; intro A W hx hf
  exact Q01 (a0 := a118) (r0 hf)
  apply oc0; intro A W hx hf
  exact Q0h (q0 ?b119_10 A W 118 hf) (p1 s7 hx (q1 ?b119_11 A W 119 hf)) (by show (-9223372036854775808 : Int) ≤ (Q0f l).1.at' + (pkN l).1.total ∧ (Q0f l).1.at' + (pkN l).1.total ≤ 9223372036854775807; omega)
  apply oc0; intro A W hx hf
  exact Q15 [(1, (.tmp 108)), (2, (.tmp 110)), (3, (.tmp 112)), (4, (.tmp 116)), (5, (.tmp 120))] [(1, _), (2, _), (3, _), (4, _), (5, _)] Qb1 rfl (PartsC.agg (q0 ?b119_0 A W 108 hf) (PartsC.one (q1 ?b119_2 A W 110 hf) rfl (PartsC.one (q2 ?b119_4 A W 112 hf) rfl (PartsC.one (q3 ?b119_8 A W 116 hf) rfl (PartsC.one (q4 ?b119_12 A W 120 hf) rfl (PartsC.nil)))))) (by simp [tupS, hs16, hd16])
  exact onn
 case t119 => exact inferInstance
 clear hr; intro a120 w120 x hr hd hs
 revert s2; refine kp1 hs rfl ?_; intro s2
 clear s3 s14 s6 s7 s9
 have s121 := fa ?b119_13 a120 w120 121 (hd 13 121 rfl)
 replace e_w := e_w.trans x
 have e_w118 := x; clear hd hs x
 have z121 := PxS.lt (Q00 e_w118 s2)
 have l121 := (show (g2_2 = 0 ∨ w.heap.size < g2_2) ∧ True from ⟨by omega, trivial⟩)
 refine Q0b hr Q35 (Q00 e_w118 s2) (Is.conv s121 (show _ = Value.agg (pktS (Q0y l)).flatten.toArray from by rw [hp]; simp [pktS, tupS, Q49])) (by rw [hp]; exact Q56 ⟨hs16, hd16⟩) (by exact Q4r) rfl ?_; clear hr; intro a121 w121 hc hu hr hs
 have hb : Below w.heap.size w120 w121 := hc.below e_w.size l121.1
 revert s2; refine kp1 hs rfl ?_; intro s2
 clear s121
 replace s2 := hu _ _ _ (Q00 e_w118 s2)
 try simp only [List.set_cons_zero, List.set_cons_succ, lnkS, Q1y, Q1h] at s2
 replace e_w := e_w.below (Nat.le_refl _) hb
 clear e_w118
 clear hu hs hc hb
 refine wpList_nil ?_
 refine et ?_
 refine wp_ret ?_
 refine Q2l Try.results14 hr tu37 rfl Q35 s2 e_w ?_
 first | exact rfl | (show _ = PktV (Q0y l); rw [hp]; rfl)

end Go.Proofs.Ytlmdboaghojgiaa
