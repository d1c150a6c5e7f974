import Derived.Test.YtlmdboaghojgiaaC01
import Derived.Test.YtlmdboaghojgiaaC06
import Derived.Test.YtlmdboaghojgiaaS09
namespace Go.Proofs.Ytlmdboaghojgiaa
open Go.RowKit
set_option linter.unusedVariables false
set_option linter.unusedSimpArgs false
set_option maxRecDepth 4000
theorem Qn9 {x0 x1 : Value} {w : World} {l : List UInt8} {z : Int} (h0 : (Bs l) x0 w) (h1 : (Is (.int .i64 z)) x1 w) (hz0 : 0 ≤ z) (hz1 : z.toNat + 2 ≤ l.length) :
    Calls Try.prog 80 #[x0, x1] w (Ret (Is (.int .i64 (Q07 l z.toNat))) w) := by
 have hlen := Bs.len_le h0
 obtain ⟨i, rfl⟩ : ∃ i : Nat, z = (i : Int) := ⟨z.toNat, by omega⟩
 simp only [Int.toNat_natCast] at hz1 ⊢
 have hbe := Qdh hz1
 have hw := Q0w l i
 have h8 : (subl l i (i + 2)).take 8 = subl l i (i + 2) := List.take_of_length_le (by simp [subl]; omega)
 refine enter Try.func80 rfl Try.ntmps80 (k := 2) rfl (by decide) (fun a0 hr hargs => ?_)
 have s0 := sarg h0 (hargs 0 (by decide))
 have s1 := sarg h1 (hargs 1 (by decide))
 clear hargs
 refine sq ?_
 refine Q04 12 [[]] [?b1_0] Q08 hr ?t1 ?o1 ?_
 case o1 =>
  apply oc0; intro A W hx hf
  exact Q05
  exact onn
 case t1 => exact inferInstance
 clear hr; intro a2 w2 x hr hd hs
 revert s1; revert s0; refine kp2 hs rfl ?_; intro s0 s1
 have e_w := x; clear hd hs x
 refine es ?_
 refine Q04 12 [[(0, none)], [(1, none)], [(1, none)], [(7, some 2)], [(5, some 0), (6, some 1), (8, some 3)], [(9, some 4)], [(10, some 5)], [(11, some 6)]] [?b3_0, ?b3_1, ?b3_2, ?b3_3, ?b3_4, ?b3_5, ?b3_6, ?b3_6] Q08 hr ?t3 ?o3 ?_
 case o3 =>
  apply oc0; intro A W hx hf
  exact Q01 (a0 := a2) (r0 hf)
  apply oc0; intro A W hx hf
  exact Q01 (a0 := a2) (r0 hf)
  apply oc0; intro A W hx hf
  exact Q01 (a0 := a2) (r0 hf)
  apply oc0; intro A W hx hf
  exact Q0o (p2 s1 e_w hx (q0 ?b3_2 A W 7 hf)) (ec A (.int .i64 2)) (by omega)
  apply oc0; intro A W hx hf
  exact Q3x (i) (i + 2) tu22 Q0s (p2 s0 e_w hx (q0 ?b3_0 A W 5 hf)) (p2 s1 e_w hx (q1 ?b3_1 A W 6 hf)) (Is.int (q2 ?b3_3 A W 8 hf) (by omega)) (by first | omega | decide | (simp; done) | (simp; omega)) (by first | omega | decide | (simp; done) | (simp; omega))
  apply oc0; intro A W hx hf
  exact Q0p Qdc (Qk2 (q0 ?b3_4 A W 9 hf) (show Is (.bool true) (A.eval (.const (.bool true))) _ from rfl))
  apply oc0; intro A W hx hf
  exact Q2d tu84 tu3 (by rw [h8, hbe]; exact IntWalk.i64_in _ (by omega)) (q0 ?b3_5 A W 10 hf)
  apply oc0; intro A W hx hf
  exact Q03 (q0 ?b3_6 A W 11 hf)
  exact onn
 case t3 => exact inferInstance
 clear hr; intro a4 w4 x hr hd hs
 clear s0 s1
 have s4 := fa ?b3_6 a4 w4 4 (hd 7 4 rfl)
 replace e_w := e_w.trans x; clear hd hs x
 refine et ?_
 refine wp_ret ?_
 refine Q0r Try.results80 hr e_w ?_
 exact Is.int s4 (by rw [h8, hbe])

def Qam : List Tmp := [7, 9, 10]
theorem Qf2 {x0 x1 : Value} {w : World} {p : Int} {l : List UInt8} (h0 : (Is (.int .i64 p)) x0 w) (h1 : (Bs l) x1 w) (h2 : 2 ≤ l.length) :
    Calls Try.prog 82 #[x0, x1] w (Ret (Is (.int .i64 (Q38 p (Q09 l 1)))) w) := by
 have hlen := Bs.len_le h1
 have e1 : (l[1]'(by omega)).toNat = Q09 l 1 := (Q10 (by omega)).symm
 have b1 := Q1q l 1
 refine enter Try.func82 rfl Try.ntmps82 (k := 2) rfl (by decide) (fun a0 hr hargs => ?_)
 have s0 := sarg h0 (hargs 0 (by decide))
 have s1 := sarg h1 (hargs 1 (by decide))
 clear hargs
 refine sq ?_
 refine Q04 30 [[]] [?b1_0] Q08 hr ?t1 ?o1 ?_
 case o1 =>
  apply oc0; intro A W hx hf
  exact Q05
  exact onn
 case t1 => exact inferInstance
 clear hr; intro a2 w2 x hr hd hs
 revert s1; revert s0; refine kp2 hs rfl ?_; intro s0 s1
 have e_w := x; clear hd hs x
 refine es ?_
 refine Q04 30 [[]] [?b3_0] Q08 hr ?t3 ?o3 ?_
 case o3 =>
  apply oc0; intro A W hx hf
  exact Q05
  exact onn
 case t3 => exact inferInstance
 clear hr; intro a4 w4 x hr hd hs
 revert s1; revert s0; refine kp2 hs rfl ?_; intro s0 s1
 have s5 := fa ?b3_0 a4 w4 5 (hd 0 5 rfl)
 replace e_w := e_w.trans x; clear hd hs x
 refine es ?_
 refine sq ?_
 refine Q04 30 [[(0, none)]] [?b5_0] Q08 hr ?t5 ?o5 ?_
 case o5 =>
  apply oc0; intro A W hx hf
  exact Q01 (a0 := a4) (r0 hf)
  exact onn
 case t5 => exact inferInstance
 clear hr; intro a6 w6 x hr hd hs
 have u6 := mv s0 (fa ?b5_0 a6 w6 6 (hd 0 6 rfl))
 revert s5; revert s1; refine kp2 hs rfl ?_; intro s1 s5
 clear s0
 have s6 := u6; clear u6
 replace e_w := e_w.trans x
 have e_w4 := x; clear hd hs x
 refine et ?_
 refine wp_block ?_
 refine sq ?_
 refine wp_block ?_
 refine sq ?_
 refine wp_block ?_
 refine sq ?_
 refine wp_block ?_
 refine sq ?_
 refine sq ?_
 refine sq ?_
 refine sq ?_
 refine Q04 30 [[(6, none)], [(8, some 0)]] [?b7_0, ?b7_0] Q08 hr ?t7 ?o7 ?_
 case o7 =>
  apply oc0; intro A W hx hf
  exact Q1i (o2 s6 e_w hx (r0 hf)) (ec A (.int .i64 0))
  apply oc0; intro A W hx hf
  exact Q03 (q0 ?b7_0 A W 8 hf)
  exact onn
 case t7 => exact inferInstance
 clear hr; intro a8 w8 x hr hd hs
 revert s6; revert s5; revert s1; refine kp3 hs rfl ?_; intro s1 s5 s6
 have s7 := fa ?b7_0 a8 w8 7 (hd 1 7 rfl)
 replace e_w := e_w.trans x
 replace e_w4 := e_w4.trans x; clear hd hs x
 refine et ?_
 refine Q33 (fun A W => Fr 30 A ∧ Same Qam a8 A ∧ Ext w W ∧ Ext w4 W ∧ (Is (.bool (decide (p = 0 ∨ p = 43 ∨ p = 60)))) (A.eval (.tmp 7)) W) ?cut9 ?_
 case cut9 =>
  have m9 : Same Qam a8 a8 := Same.rfl
  refine wp_cond_split (show _ = _ from s7) (fun hq => ?_) (fun hq => ?_)
  ·
   have hq : p = 0 := by simpa using hq
   refine wp_skip ?_
   refine et ?_
   refine ⟨hr, m9, e_w, e_w4, ?_⟩
   · first | exact Is.bool s7 (Qjw hq) | exact Is.bool s7 (Qjx hq hq2) | exact Is.bool s7 (Qjy hq hq2)
  have hq : p ≠ 0 := by simpa using hq
  refine sq ?_
  refine Q04 30 [[(6, none)], [(9, some 0)]] [?b11_0, ?b11_0] Q08 hr ?t11 ?o11 ?_
  case o11 =>
   apply oc0; intro A W hx hf
   exact Q1i (o2 s6 e_w hx (r0 hf)) (ec A (.int .i64 43))
   apply oc0; intro A W hx hf
   exact Q03 (q0 ?b11_0 A W 9 hf)
   exact onn
  case t11 => exact inferInstance
  clear hr; intro a12 w12 x hr hd hs
  revert s6; revert s5; revert s1; refine kp3 hs rfl ?_; intro s1 s5 s6
  clear s7
  have s7 := fa ?b11_0 a12 w12 7 (hd 1 7 rfl)
  replace e_w := e_w.trans x
  replace e_w4 := e_w4.trans x
  replace m9 := m9.tr hs rfl; clear hd hs x
  refine et ?_
  refine wp_cond_split (show _ = _ from s7) (fun hq2 => ?_) (fun hq2 => ?_)
  ·
   have hq2 : p = 43 := by simpa using hq2
   refine wp_skip ?_
   refine et ?_
   refine ⟨hr, m9, e_w, e_w4, ?_⟩
   · first | exact Is.bool s7 (Qjw hq) | exact Is.bool s7 (Qjx hq hq2) | exact Is.bool s7 (Qjy hq hq2)
  have hq2 : p ≠ 43 := by simpa using hq2
  refine Q04 30 [[(6, none)], [(10, some 0)]] [?b14_0, ?b14_0] Q08 hr ?t14 ?o14 ?_
  case o14 =>
   apply oc0; intro A W hx hf
   exact Q1i (o2 s6 e_w hx (r0 hf)) (ec A (.int .i64 60))
   apply oc0; intro A W hx hf
   exact Q03 (q0 ?b14_0 A W 10 hf)
   exact onn
  case t14 => exact inferInstance
  clear hr; intro a15 w15 x hr hd hs
  revert s6; revert s5; revert s1; refine kp3 hs rfl ?_; intro s1 s5 s6
  clear s7
  have s7 := fa ?b14_0 a15 w15 7 (hd 1 7 rfl)
  replace e_w := e_w.trans x
  replace e_w4 := e_w4.trans x
  replace m9 := m9.tr hs rfl; clear hd hs x
  refine et ?_
  refine ⟨hr, m9, e_w, e_w4, ?_⟩
  · first | exact Is.bool s7 (Qjw hq) | exact Is.bool s7 (Qjx hq hq2) | exact Is.bool s7 (Qjy hq hq2)
 intro a9 w9 hI
 clear e_w
 clear e_w4
 clear hr; obtain ⟨hr, hs, e_w, e_w4, u7⟩ := hI
 revert s6; revert s5; revert s1; refine kp3 hs rfl ?_; intro s1 s5 s6
 clear s7
 have s7 := u7; clear u7
 clear hs
 refine wp_cond_split (show _ = _ from s7) (fun hk => ?_) (fun hk => ?_)
 ·
  have hk := of_decide_eq_true hk
  refine wp_exit ?_
  refine Q0g ?_
  refine Q0g ?_
  refine Q1a ?_
  refine et ?_
  refine Q04 30 [[(1, none)], [(15, some 0)], [(16, some 1)], [(17, some 2)], [(18, some 3)], [(19, some 4)]] [?b17_0, ?b17_1, ?b17_2, ?b17_3, ?b17_4, ?b17_4] Q08 hr ?t17 ?o17 ?_
  case o17 =>
   apply oc0; intro A W hx hf
   exact Q01 (a0 := a9) (r0 hf)
   apply oc0; intro A W hx hf
   exact Q12 (1) tu22 Q0s (p2 s1 e_w hx (q0 ?b17_0 A W 15 hf)) (ec A (.int .i64 1)) (by first | omega | decide | (simp; done) | (simp; omega))
   apply oc0; intro A W hx hf
   exact Q1d tu5 rfl (q0 ?b17_1 A W 16 hf)
   apply oc0; intro A W hx hf
   exact Q2k tu5 tu3 (by decide) (q0 ?b17_2 A W 17 hf)
   apply oc0; intro A W hx hf
   exact Q5j (q0 ?b17_3 A W 18 hf) (ec A (.int .i64 4)) (by omega)
   apply oc0; intro A W hx hf
   exact Q03 (q0 ?b17_4 A W 19 hf)
   exact onn
  case t17 => exact inferInstance
  clear hr; intro a18 w18 x hr hd hs
  revert s1; refine kp1 hs rfl ?_; intro s1
  clear s5 s6 s7
  have s5 := fa ?b17_4 a18 w18 5 (hd 5 5 rfl)
  replace e_w := e_w.trans x
  clear e_w4; clear hd hs x
  refine Q0x ?_
  refine et ?_
  refine Q04 30 [[(5, none)], [(1, none)], [(21, some 1)], [(22, some 2)], [(23, some 3)], [(24, some 4)], [(20, some 0), (25, some 5)], [(26, some 6)]] [?b19_0, ?b19_1, ?b19_2, ?b19_3, ?b19_4, ?b19_5, ?b19_6, ?b19_6] Q08 hr ?t19 ?o19 ?_
  case o19 =>
   apply oc0; intro A W hx hf
   exact Q01 (a0 := a18) (r0 hf)
   apply oc0; intro A W hx hf
   exact Q01 (a0 := a18) (r0 hf)
   apply oc0; intro A W hx hf
   exact Q12 (1) tu22 Q0s (p2 s1 e_w hx (q0 ?b19_1 A W 21 hf)) (ec A (.int .i64 1)) (by first | omega | decide | (simp; done) | (simp; omega))
   apply oc0; intro A W hx hf
   exact Q1d tu5 rfl (q0 ?b19_2 A W 22 hf)
   apply oc0; intro A W hx hf
   exact Q2k tu5 tu3 (by decide) (q0 ?b19_3 A W 23 hf)
   apply oc0; intro A W hx hf
   exact Q5j (q0 ?b19_4 A W 24 hf) (ec A (.int .i64 4)) (by omega)
   apply oc0; intro A W hx hf
   exact Q0o (p1 s5 hx (q0 ?b19_0 A W 20 hf)) (q1 ?b19_5 A W 25 hf) (by omega)
   apply oc0; intro A W hx hf
   exact Q03 (q0 ?b19_6 A W 26 hf)
   exact onn
  case t19 => exact inferInstance
  clear hr; intro a20 w20 x hr hd hs
  clear s1 s5
  have s5 := fa ?b19_6 a20 w20 5 (hd 7 5 rfl)
  replace e_w := e_w.trans x; clear hd hs x
  refine Q0x ?_
  refine es ?_
  refine Q04 30 [[(5, none)], [(27, some 0)], [(28, some 1)]] [?b21_0, ?b21_1, ?b21_1] Q08 hr ?t21 ?o21 ?_
  case o21 =>
   apply oc0; intro A W hx hf
   exact Q01 (a0 := a20) (r0 hf)
   apply oc0; intro A W hx hf
   exact Q0o (p1 s5 hx (q0 ?b21_0 A W 27 hf)) (ec A (.int .i64 8)) (by omega)
   apply oc0; intro A W hx hf
   exact Q03 (q0 ?b21_1 A W 28 hf)
   exact onn
  case t21 => exact inferInstance
  clear hr; intro a22 w22 x hr hd hs
  clear s5
  have s5 := fa ?b21_1 a22 w22 5 (hd 2 5 rfl)
  replace e_w := e_w.trans x; clear hd hs x
  refine et ?_
  refine wp_exit ?_
  refine Q1a ?_
  refine es ?_
  refine Q04 30 [[(5, none)], [(29, some 0)]] [?b23_0, ?b23_0] Q08 hr ?t23 ?o23 ?_
  case o23 =>
   apply oc0; intro A W hx hf
   exact Q01 (a0 := a22) (r0 hf)
   apply oc0; intro A W hx hf
   exact Q03 (q0 ?b23_0 A W 29 hf)
   exact onn
  case t23 => exact inferInstance
  clear hr; intro a24 w24 x hr hd hs
  have u4 := mv s5 (fa ?b23_0 a24 w24 4 (hd 1 4 rfl))
  clear s5
  have s4 := u4; clear u4
  replace e_w := e_w.trans x
  have e_w22 := x; clear hd hs x
  refine et ?_
  refine wp_ret ?_
  refine Q0r Try.results82 hr e_w ?_
  exact Is.int (Q00 e_w22 s4) (by unfold Q38; first | (rw [if_pos hk]; omega) | (rw [if_neg hk, if_pos h51]; omega) | (rw [if_neg hk, if_neg h51, if_pos h44]; omega) | (rw [if_neg hk, if_neg h51, if_neg h44]))
 have hk := of_decide_eq_false hk
 refine wp_skip ?_
 refine es ?_
 refine sq ?_
 refine Q04 30 [[(6, none)], [(12, some 0)]] [?b25_0, ?b25_0] Q08 hr ?t25 ?o25 ?_
 case o25 =>
  apply oc0; intro A W hx hf
  exact Q1i (o2 s6 e_w hx (r0 hf)) (ec A (.int .i64 51))
  apply oc0; intro A W hx hf
  exact Q03 (q0 ?b25_0 A W 12 hf)
  exact onn
 case t25 => exact inferInstance
 clear hr; intro a26 w26 x hr hd hs
 revert s6; revert s5; revert s1; refine kp3 hs rfl ?_; intro s1 s5 s6
 clear s7
 have s11 := fa ?b25_0 a26 w26 11 (hd 1 11 rfl)
 replace e_w := e_w.trans x
 replace e_w4 := e_w4.trans x; clear hd hs x
 refine et ?_
 refine wp_cond_split (show _ = _ from s11) (fun h51 => ?_) (fun h51 => ?_)
 ·
  have h51 : p = 51 := by simpa using h51
  refine wp_exit ?_
  refine Q0g ?_
  refine Q0g ?_
  refine Q6q rfl ?_
  refine Q0g ?_
  refine Q1a ?_
  refine et ?_
  refine Q04 30 [[(5, none)], [(1, none)], [(21, some 1)], [(22, some 2)], [(23, some 3)], [(24, some 4)], [(20, some 0), (25, some 5)], [(26, some 6)]] [?b28_0, ?b28_1, ?b28_2, ?b28_3, ?b28_4, ?b28_5, ?b28_6, ?b28_6] Q08 hr ?t28 ?o28 ?_
  case o28 =>
   apply oc0; intro A W hx hf
   exact Q01 (a0 := a26) (r0 hf)
   apply oc0; intro A W hx hf
   exact Q01 (a0 := a26) (r0 hf)
   apply oc0; intro A W hx hf
   exact Q12 (1) tu22 Q0s (p2 s1 e_w hx (q0 ?b28_1 A W 21 hf)) (ec A (.int .i64 1)) (by first | omega | decide | (simp; done) | (simp; omega))
   apply oc0; intro A W hx hf
   exact Q1d tu5 rfl (q0 ?b28_2 A W 22 hf)
   apply oc0; intro A W hx hf
   exact Q2k tu5 tu3 (by decide) (q0 ?b28_3 A W 23 hf)
   apply oc0; intro A W hx hf
   exact Q5j (q0 ?b28_4 A W 24 hf) (ec A (.int .i64 4)) (by omega)
   apply oc0; intro A W hx hf
   exact Q0o (p2 s5 e_w4 hx (q0 ?b28_0 A W 20 hf)) (q1 ?b28_5 A W 25 hf) (by omega)
   apply oc0; intro A W hx hf
   exact Q03 (q0 ?b28_6 A W 26 hf)
   exact onn
  case t28 => exact inferInstance
  clear hr; intro a29 w29 x hr hd hs
  clear s1 s5 s6 s11
  have s5 := fa ?b28_6 a29 w29 5 (hd 7 5 rfl)
  replace e_w := e_w.trans x
  clear e_w4; clear hd hs x
  refine Q0x ?_
  refine es ?_
  refine Q04 30 [[(5, none)], [(27, some 0)], [(28, some 1)]] [?b30_0, ?b30_1, ?b30_1] Q08 hr ?t30 ?o30 ?_
  case o30 =>
   apply oc0; intro A W hx hf
   exact Q01 (a0 := a29) (r0 hf)
   apply oc0; intro A W hx hf
   exact Q0o (p1 s5 hx (q0 ?b30_0 A W 27 hf)) (ec A (.int .i64 8)) (by omega)
   apply oc0; intro A W hx hf
   exact Q03 (q0 ?b30_1 A W 28 hf)
   exact onn
  case t30 => exact inferInstance
  clear hr; intro a31 w31 x hr hd hs
  clear s5
  have s5 := fa ?b30_1 a31 w31 5 (hd 2 5 rfl)
  replace e_w := e_w.trans x; clear hd hs x
  refine et ?_
  refine wp_exit ?_
  refine Q1a ?_
  refine es ?_
  refine Q04 30 [[(5, none)], [(29, some 0)]] [?b32_0, ?b32_0] Q08 hr ?t32 ?o32 ?_
  case o32 =>
   apply oc0; intro A W hx hf
   exact Q01 (a0 := a31) (r0 hf)
   apply oc0; intro A W hx hf
   exact Q03 (q0 ?b32_0 A W 29 hf)
   exact onn
  case t32 => exact inferInstance
  clear hr; intro a33 w33 x hr hd hs
  have u4 := mv s5 (fa ?b32_0 a33 w33 4 (hd 1 4 rfl))
  clear s5
  have s4 := u4; clear u4
  replace e_w := e_w.trans x
  have e_w31 := x; clear hd hs x
  refine et ?_
  refine wp_ret ?_
  refine Q0r Try.results82 hr e_w ?_
  exact Is.int (Q00 e_w31 s4) (by unfold Q38; first | (rw [if_pos hk]; omega) | (rw [if_neg hk, if_pos h51]; omega) | (rw [if_neg hk, if_neg h51, if_pos h44]; omega) | (rw [if_neg hk, if_neg h51, if_neg h44]))
 have h51 : p ≠ 51 := by simpa using h51
 refine wp_skip ?_
 refine es ?_
 refine Q04 30 [[(6, none)], [(14, some 0)]] [?b34_0, ?b34_0] Q08 hr ?t34 ?o34 ?_
 case o34 =>
  apply oc0; intro A W hx hf
  exact Q1i (o2 s6 e_w hx (r0 hf)) (ec A (.int .i64 44))
  apply oc0; intro A W hx hf
  exact Q03 (q0 ?b34_0 A W 14 hf)
  exact onn
 case t34 => exact inferInstance
 clear hr; intro a35 w35 x hr hd hs
 revert s5; refine kp1 hs rfl ?_; intro s5
 clear s1 s6 s11
 have s13 := fa ?b34_0 a35 w35 13 (hd 1 13 rfl)
 replace e_w := e_w.trans x
 replace e_w4 := e_w4.trans x; clear hd hs x
 refine et ?_
 refine wp_cond_split (show _ = _ from s13) (fun h44 => ?_) (fun h44 => ?_)
 ·
  have h44 : p = 44 := by simpa using h44
  refine wp_exit ?_
  refine Q0g ?_
  refine Q6q rfl ?_
  refine Q0g ?_
  refine Q6q rfl ?_
  refine Q0g ?_
  refine Q1a ?_
  refine es ?_
  refine Q04 30 [[(5, none)], [(27, some 0)], [(28, some 1)]] [?b37_0, ?b37_1, ?b37_1] Q08 hr ?t37 ?o37 ?_
  case o37 =>
   apply oc0; intro A W hx hf
   exact Q01 (a0 := a35) (r0 hf)
   apply oc0; intro A W hx hf
   exact Q0o (p2 s5 e_w4 hx (q0 ?b37_0 A W 27 hf)) (ec A (.int .i64 8)) (by omega)
   apply oc0; intro A W hx hf
   exact Q03 (q0 ?b37_1 A W 28 hf)
   exact onn
  case t37 => exact inferInstance
  clear hr; intro a38 w38 x hr hd hs
  clear s5 s13
  have s5 := fa ?b37_1 a38 w38 5 (hd 2 5 rfl)
  replace e_w := e_w.trans x
  clear e_w4; clear hd hs x
  refine et ?_
  refine wp_exit ?_
  refine Q1a ?_
  refine es ?_
  refine Q04 30 [[(5, none)], [(29, some 0)]] [?b39_0, ?b39_0] Q08 hr ?t39 ?o39 ?_
  case o39 =>
   apply oc0; intro A W hx hf
   exact Q01 (a0 := a38) (r0 hf)
   apply oc0; intro A W hx hf
   exact Q03 (q0 ?b39_0 A W 29 hf)
   exact onn
  case t39 => exact inferInstance
  clear hr; intro a40 w40 x hr hd hs
  have u4 := mv s5 (fa ?b39_0 a40 w40 4 (hd 1 4 rfl))
  clear s5
  have s4 := u4; clear u4
  replace e_w := e_w.trans x
  have e_w38 := x; clear hd hs x
  refine et ?_
  refine wp_ret ?_
  refine Q0r Try.results82 hr e_w ?_
  exact Is.int (Q00 e_w38 s4) (by unfold Q38; first | (rw [if_pos hk]; omega) | (rw [if_neg hk, if_pos h51]; omega) | (rw [if_neg hk, if_neg h51, if_pos h44]; omega) | (rw [if_neg hk, if_neg h51, if_neg h44]))
 have h44 : p ≠ 44 := by simpa using h44
 refine wp_skip ?_
 refine et ?_
 refine wp_exit ?_
 refine Q6q rfl ?_
 refine Q0g ?_
 refine Q6q rfl ?_
 refine Q0g ?_
 refine Q6q rfl ?_
 refine Q0g ?_
 refine Q1a ?_
 refine es ?_
 refine Q04 30 [[(5, none)], [(29, some 0)]] [?b41_0, ?b41_0] Q08 hr ?t41 ?o41 ?_
 case o41 =>
  apply oc0; intro A W hx hf
  exact Q01 (a0 := a35) (r0 hf)
  apply oc0; intro A W hx hf
  exact Q03 (q0 ?b41_0 A W 29 hf)
  exact onn
 case t41 => exact inferInstance
 clear hr; intro a42 w42 x hr hd hs
 have u4 := mv s5 (fa ?b41_0 a42 w42 4 (hd 1 4 rfl))
 clear s5 s13
 have s4 := u4; clear u4
 replace e_w := e_w.trans x
 replace e_w4 := e_w4.trans x; clear hd hs x
 refine et ?_
 refine wp_ret ?_
 refine Q0r Try.results82 hr e_w ?_
 exact Is.int (Q00 e_w4 s4) (by unfold Q38; first | (rw [if_pos hk]; omega) | (rw [if_neg hk, if_pos h51]; omega) | (rw [if_neg hk, if_neg h51, if_pos h44]; omega) | (rw [if_neg hk, if_neg h51, if_neg h44]))

theorem Qrh {x0 : Value} {w : World} {p : Int} (h0 : (Is (.int .i64 p)) x0 w)  :
    Calls Try.prog 81 #[x0] w (Ret (Is (.bool (extB p))) w) := by
 refine enter Try.func81 rfl Try.ntmps81 (k := 1) rfl (by decide) (fun a0 hr hargs => ?_)
 have s0 := sarg h0 (hargs 0 (by decide))
 clear hargs
 refine sq ?_
 refine Q04 7 [[]] [?b1_0] Q08 hr ?t1 ?o1 ?_
 case o1 =>
  apply oc0; intro A W hx hf
  exact Q05
  exact onn
 case t1 => exact inferInstance
 clear hr; intro a2 w2 x hr hd hs
 revert s0; refine kp1 hs rfl ?_; intro s0
 have e_w := x; clear hd hs x
 refine es ?_
 refine Q04 7 [[(0, none)], [], [(3, some 0), (4, some 1)], [(5, some 2)], [(6, some 3)]] [?b3_0, ?b3_1, ?b3_2, ?b3_3, ?b3_3] Q08 hr ?t3 ?o3 ?_
 case o3 =>
  apply oc0; intro A W hx hf
  exact Q01 (a0 := a2) (r0 hf)
  apply oc0; intro A W hx hf
  exact Qd5 (n := 8) tu22 Q3u (ec A (.int .i64 8)) (ec A (.int .i64 8)) (by omega) hx.size
  apply oc0; intro A W hx hf
  exact Q0p Qio (Qf2 (p2 s0 e_w hx (q0 ?b3_0 A W 3 hf)) (OwnB.bs (q1 ?b3_1 A W 4 hf)) (by decide))
  apply oc0; intro A W hx hf
  exact Q3m (q0 ?b3_2 A W 5 hf) (ec A (.int .i64 0))
  apply oc0; intro A W hx hf
  exact Q03 (q0 ?b3_3 A W 6 hf)
  exact onn
 case t3 => exact inferInstance
 clear hr; intro a4 w4 x hr hd hs
 have z_w_w2 := e_w.size
 clear s0
 have s2 := fa ?b3_3 a4 w4 2 (hd 4 2 rfl)
 replace e_w := e_w.trans x; clear hd hs x
 refine et ?_
 refine wp_ret ?_
 refine Q0r Try.results81 hr e_w ?_
 exact Is.bool s2 (Qju _)

def Qf3 : List Tmp := [3, 5, 6, 53, 54, 55, 56, 57, 58, 59, 60, 61, 62, 63, 64, 65, 66, 67, 68, 69, 70, 71, 72, 73, 74, 75, 76, 77, 78, 79, 80, 81, 82, 83, 84, 85, 86, 87, 88, 89, 90, 91, 92, 93, 94, 95, 96, 97, 98, 99, 100, 101, 102, 103, 104, 105, 106, 107, 108]
theorem Qoo {x0 : Value} {w : World} {l : List UInt8} (h0 : (Bs l) x0 w)  :
    Calls Try.prog 72 #[x0] w (Ret (Tup2 (Is (SixV (Q0j l).1)) (Is (.int .i64 (Q0j l).2))) w) := by
 have hlen := Bs.len_le h0
 have w4 := Q0w l 4
 refine enter Try.func72 rfl Try.ntmps72 (k := 1) rfl (by decide) (fun a0 hr hargs => ?_)
 have s0 := sarg h0 (hargs 0 (by decide))
 clear hargs
 refine sq ?_
 refine Q04 110 [[], []] [?b1_0, ?b1_1] Q08 hr ?t1 ?o1 ?_
 case o1 =>
  apply oc0; intro A W hx hf
  exact Q0y [(sixS six0).flatten] [40] Qei (by rfl) (by rfl) hx.size
  apply oc0; intro A W hx hf
  exact Q05
  exact onn
 case t1 => exact inferInstance
 clear hr; intro a2 w2 x hr hd hs
 revert s0; refine kp1 hs rfl ?_; intro s0
 have s2 := fa ?b1_0 a2 w2 2 (hd 0 2 rfl)
 obtain ⟨g2_2, q2_2⟩ := PxN.at s2; clear s2; have n2_2 := PxS.lt q2_2
 have s2 := q2_2; clear q2_2
 have e_w := x; clear hd hs x
 refine es ?_
 refine sq ?_
 refine Q04 110 [[(0, none)], [(7, some 0)], [(8, some 1)]] [?b3_0, ?b3_1, ?b3_2] Q08 hr ?t3 ?o3 ?_
 case o3 =>
  apply oc0; intro A W hx hf
  exact Q01 (a0 := a2) (r0 hf)
  apply oc0; intro A W hx hf
  exact Q0v tu22 (p2 s0 e_w hx (q0 ?b3_0 A W 7 hf))
  apply oc0; intro A W hx hf
  exact Q1b (q0 ?b3_1 A W 8 hf) (ec A (.int .i64 40))
  exact onn
 case t3 => exact inferInstance
 clear hr; intro a4 w4 x hr hd hs
 revert s2; revert s0; refine kp2 hs rfl ?_; intro s0 s2
 have s9 := fa ?b3_2 a4 w4 9 (hd 2 9 rfl)
 replace e_w := e_w.trans x
 have e_w2 := x; clear hd hs x
 refine et ?_
 refine wp_cond_split (show _ = _ from s9) (fun hl => ?_) (fun hl => ?_)
 ·
  have hl : l.length < 40 := by simp at hl; omega
  have hrd : Q0j l = (six0, 2) := by unfold Q0j; rw [if_pos hl]
  refine sq ?_
  refine Q06 (l := [_]) (rest := [_, _]) 110 [[]] [?b6_0] hr ?t6 ?o6 ?_
  case o6 =>
   apply oc0; intro A W hx hf
   exact Q13 Q9p
   exact onn
  case t6 => exact inferInstance
  clear hr; intro a7 w7 x hr hd hs
  revert s2; refine kp1 hs rfl ?_; intro s2
  clear s0 s9
  have s10 := fa ?b6_0 a7 w7 10 (hd 0 10 rfl)
  replace e_w := e_w.trans x
  replace e_w2 := e_w2.trans x; clear hd hs x
  have z8 := PxS.lt (Q00 e_w2 s2)
  have l8 := (show (g2_2 = 0 ∨ w.heap.size < g2_2) ∧ True from ⟨by omega, trivial⟩)
  refine Q0k hr Q4h (Q00 e_w2 s2) s10 (by exact Q8m Q58) (by exact Q6k) rfl ?_; clear hr; intro a8 w8 hc hu hr hs
  have hb : Below w.heap.size w7 w8 := hc.below e_w.size l8.1
  revert s2; refine kp1 hs rfl ?_; intro s2
  clear s10
  replace s2 := hu _ _ _ (Q00 e_w2 s2)
  try simp only [List.set_cons_zero, List.set_cons_succ, Q2r] at s2
  replace e_w := e_w.below (Nat.le_refl _) hb
  clear e_w2
  clear hu hs hc hb
  refine Q11 hr (Q05) inferInstance ?_; clear hr; intro a9 w9 x hr hd hs
  revert s2; refine kp1 hs rfl ?_; intro s2
  have s3 := hd 3 rfl (by decide)
  replace e_w := e_w.trans x
  have e_w8 := x; clear hd hs x
  refine wpList_nil ?_
  refine et ?_
  refine wp_ret ?_
  refine Q0e ?_
  refine Q0f Try.results72 hr tu62 rfl Q4h (Q00 e_w8 s2) e_w ?_
  (rw [hrd]; exact ⟨_, _, rfl, rfl, s3⟩)
 have hl : ¬ l.length < 40 := by simp at hl; omega
 have e0 : (l[0]'(by omega)).toNat = Q09 l 0 := (Q10 (by omega)).symm
 have e6 : (l[6]'(by omega)).toNat = Q09 l 6 := (Q10 (by omega)).symm
 have e7 : (l[7]'(by omega)).toNat = Q09 l 7 := (Q10 (by omega)).symm
 refine wp_skip ?_
 refine es ?_
 refine Q1s Q08 (fun w10 x => ?_)
 show wpAny _ _ _ _ 16 _ _ _
 replace e_w := e_w.trans x
 replace e_w2 := e_w2.trans x
 have e_w4 := x
 clear x
 refine Q60 (l := [_, _, _, _, _, _, _, _, _, _, _, _, _, _, _, _]) 110 _ [false, false, false, false, false, false, false, false, false, false, false, false, false, false, false, true] [15] [[(0, none)], [(11, some 0)], [(12, some 1)], [(0, none)], [(14, some 3)], [(15, some 4)], [(16, some 5)], [(0, none)], [(18, some 7)], [(19, some 8)], [(20, some 9)], [], [], [(13, some 2), (17, some 6), (21, some 10), (22, some 11), (23, some 12)], [], []] [?b11_0, ?b11_1, ?b11_2, ?b11_3, ?b11_4, ?b11_5, ?b11_6, ?b11_7, ?b11_8, ?b11_9, ?b11_10, ?b11_11, ?b11_12, ?b11_13, ?b11_14, VP.top] (by kernel_rfl) rfl (by kernel_rfl) hr ?t11 ?o11 ?_
 case o11 =>
  apply lc0; intro A W hx hf
  exact Q01 (a0 := a4) (r0 hf)
  apply lc0; intro A W hx hf
  exact Q0p Qmv (Qn9 (p2 s0 e_w hx (q0 ?b11_0 A W 11 hf)) (show Is (.int .i64 4) (A.eval (.const (.int .i64 4))) _ from rfl) (by decide) (by omega))
  apply lc0; intro A W hx hf
  exact Q0o (ec A (.int .i64 40)) (q0 ?b11_1 A W 12 hf) (by show (-9223372036854775808 : Int) ≤ 40 + Q07 l 4 ∧ 40 + Q07 l 4 ≤ (9223372036854775807 : Int); omega)
  apply lc0; intro A W hx hf
  exact Q01 (a0 := a4) (r0 hf)
  apply lc0; intro A W hx hf
  exact Q12 (6) tu22 Q0s (p2 s0 e_w hx (q0 ?b11_3 A W 14 hf)) (ec A (.int .i64 6)) (by first | omega | decide | (simp; done) | (simp; omega))
  apply lc0; intro A W hx hf
  exact Q1d tu5 rfl (q0 ?b11_4 A W 15 hf)
  apply lc0; intro A W hx hf
  exact Q2k tu5 tu3 (by decide) (q0 ?b11_5 A W 16 hf)
  apply lc0; intro A W hx hf
  exact Q01 (a0 := a4) (r0 hf)
  apply lc0; intro A W hx hf
  exact Q12 (7) tu22 Q0s (p2 s0 e_w hx (q0 ?b11_7 A W 18 hf)) (ec A (.int .i64 7)) (by first | omega | decide | (simp; done) | (simp; omega))
  apply lc0; intro A W hx hf
  exact Q1d tu5 rfl (q0 ?b11_8 A W 19 hf)
  apply lc0; intro A W hx hf
  exact Q2k tu5 tu3 (by decide) (q0 ?b11_9 A W 20 hf)
  apply lc0; intro A W hx hf
  exact Q1e [(0, (.const (.bool true)))] [(0, _)] Qip rfl (PartsC.one (ec A (.bool true)) rfl (PartsC.nil)) (by first | rfl | simp [Q0l, *])
  apply lc0; intro A W hx hf
  exact Q1e [(0, (.const (.bool true)))] [(0, _)] Qip rfl (PartsC.one (ec A (.bool true)) rfl (PartsC.nil)) (by first | rfl | simp [Q0l, *])
  apply lc0; intro A W hx hf
  exact Q1e [(0, (.const (.int .i64 40))), (1, (.tmp 13)), (5, (.tmp 17)), (2, (.tmp 21)), (6, (.tmp 22)), (7, (.tmp 23))] [(0, _), (1, _), (5, _), (2, _), (6, _), (7, _)] Qqi rfl (PartsC.one (ec A (.int .i64 40)) rfl (PartsC.one (q0 ?b11_2 A W 13 hf) rfl (PartsC.one (q1 ?b11_6 A W 17 hf) rfl (PartsC.one (q2 ?b11_10 A W 21 hf) rfl (PartsC.agg (q3 ?b11_11 A W 22 hf) (PartsC.agg (q4 ?b11_12 A W 23 hf) (PartsC.nil))))))) (by first | rfl | simp [Q0l, *])
  apply lc0; intro A W hx hf
  exact Q0y (Q2r six0) [1, 1, 1, 1, 1, 1, 1, 16, 1, 16] Qei (by rfl) (by rfl) hx.size
  refine lcs ?_
  exact lcn
 case t11 => exact inferInstance
 clear hr; intro a12 w12 x hr hd hs
 have z_w_w10 := e_w.size
 have z_w2_w10 := e_w2.size
 have z_w4_w10 := e_w4.size
 have l12_2 := PxS.lt (Q00 e_w2 s2)
 have u11 := mv s0 (fa ?b11_0 a12 w12 11 (hd 0 11 rfl rfl))
 have u14 := mv s0 (fa ?b11_3 a12 w12 14 (hd 3 14 rfl rfl))
 have u18 := mv s0 (fa ?b11_7 a12 w12 18 (hd 7 18 rfl rfl))
 revert s2; revert s0; refine kp2 hs rfl ?_; intro s0 s2
 clear s9
 have s11 := u11; clear u11
 have s14 := u14; clear u14
 have s18 := u18; clear u18
 have s12 := fa ?b11_1 a12 w12 12 (hd 1 12 rfl rfl)
 have s13 := fa ?b11_2 a12 w12 13 (hd 2 13 rfl rfl)
 have s15 := fa ?b11_4 a12 w12 15 (hd 4 15 rfl rfl)
 have s16 := fa ?b11_5 a12 w12 16 (hd 5 16 rfl rfl)
 have s17 := fa ?b11_6 a12 w12 17 (hd 6 17 rfl rfl)
 have s19 := fa ?b11_8 a12 w12 19 (hd 8 19 rfl rfl)
 have s20 := fa ?b11_9 a12 w12 20 (hd 9 20 rfl rfl)
 have s21 := fa ?b11_10 a12 w12 21 (hd 10 21 rfl rfl)
 have s22 := fa ?b11_11 a12 w12 22 (hd 11 22 rfl rfl)
 have s23 := fa ?b11_12 a12 w12 23 (hd 12 23 rfl rfl)
 have s24 := fa ?b11_13 a12 w12 24 (hd 13 24 rfl rfl)
 have s4 := fa ?b11_14 a12 w12 4 (hd 14 4 rfl rfl)
 obtain ⟨g12_4, q12_4⟩ := PxN.at s4; clear s4; have n12_4 := PxS.lt q12_4
 replace q12_4 := PxS.mono q12_4 e_w.size
 have s4 := q12_4; clear q12_4
 replace e_w := e_w.trans x
 replace e_w2 := e_w2.trans x
 clear e_w4; clear hd hs x
 show wpList _ _ _ [_] _ _
 have z13 := PxS.lt s4
 have l13 := (show (g12_4 = 0 ∨ w.heap.size < g12_4) ∧ True from ⟨by omega, trivial⟩)
 have l13_2 := PxS.lt (Q00 e_w2 s2)
 refine Q19 (Q2r ⟨40, 40 + Q07 l 4, Q09 l 7, false, 0, Q09 l 6, ⟨true, List.replicate 16 0⟩, ⟨true, List.replicate 16 0⟩⟩) hr Q4h s4 (Is.conv s24 (show _ = Value.agg (Q2r ⟨40, 40 + Q07 l 4, Q09 l 7, false, 0, Q09 l 6, ⟨true, List.replicate 16 0⟩, ⟨true, List.replicate 16 0⟩⟩).flatten.toArray from by rw [← e6, ← e7]; rfl)) (by exact Q8l ⟨rfl, rfl⟩) (by rw [Qac]; exact Q6k) rfl ?_; clear hr; intro a13 w13 hc hu hr hs
 have hb : Below w.heap.size w12 w13 := hc.below e_w.size l13.1
 revert s4; revert s2; revert s0; refine kp3 hs rfl ?_; intro s0 s2 s4
 clear s11 s14 s18 s12 s13 s15 s16 s17 s19 s20 s21 s22 s23 s24
 replace s2 := PxS.other (Q00 e_w2 s2) hc (by omega)
 replace s4 := hu _ _ _ s4
 try simp only [List.set_cons_zero, List.set_cons_succ, Q2r] at s4
 replace e_w := e_w.below (Nat.le_refl _) hb
 clear e_w2
 clear hu hs hc hb
 refine wpList_nil ?_
 refine es ?_
 refine Q1s Q08 (fun w14 x => ?_)
 show wpAny _ _ _ _ 6 _ _ _
 replace e_w := e_w.trans x
 have e_w13 := x
 clear x
 refine Q60 (l := [_, _, _, _, _, _]) 110 _ [false, false, false, false, false, true] [5] [[(4, none)], [(25, some 0)], [(26, some 1)], [(0, none)], [(28, some 3)], []] [?b15_0, ?b15_1, ?b15_2, ?b15_3, ?b15_4, VP.top] (by kernel_rfl) rfl (by kernel_rfl) hr ?t15 ?o15 ?_
 case o15 =>
  apply lc0; intro A W hx hf
  exact Q02 6 tu62 (k := 6) rfl Q0z rfl (o2 s4 e_w13 hx (r0 hf)) rfl
  apply lc0; intro A W hx hf
  exact Q02 7 tu25 (k := 1) rfl Q61 rfl (q0 ?b15_0 A W 25 hf) rfl
  apply lc0; intro A W hx hf
  exact Q7m tu23 Q0s (q0 ?b15_1 A W 26 hf) rfl
  apply lc0; intro A W hx hf
  exact Q01 (a0 := a13) (r0 hf)
  apply lc0; intro A W hx hf
  exact Q2e (8) tu22 Q0s (sarg s0 (show _ = _ from (q0 ?b15_3 A W 28 hf))) (ec A (.int .i64 8)) (by first | omega | decide | (simp; done) | (simp; omega))
  refine lcs ?_
  exact lcn
 case t15 => exact inferInstance
 clear hr; intro a16 w16 x hr hd hs
 have u28 := mv s0 (fa ?b15_3 a16 w16 28 (hd 3 28 rfl rfl))
 revert s4; revert s2; revert s0; refine kp3 hs rfl ?_; intro s0 s2 s4
 have s28 := u28; clear u28
 have s25 := fa ?b15_0 a16 w16 25 (hd 0 25 rfl rfl)
 have s26 := fa ?b15_1 a16 w16 26 (hd 1 26 rfl rfl)
 have s27 := fa ?b15_2 a16 w16 27 (hd 2 27 rfl rfl)
 have s29 := AtW.base (fa ?b15_4 a16 w16 29 (hd 4 29 rfl rfl))
 replace e_w := e_w.trans x
 replace e_w13 := e_w13.trans x; clear hd hs x
 show wpList _ _ _ [_] _ _
 have z17 := SxS.lt s27
 have l17 := (show (g12_4 = 0 ∨ w.heap.size < g12_4) ∧ True from ⟨by omega, trivial⟩)
 have l17_2 := PxS.lt (Q00 e_w13 s2)
 refine Q7n hr tu22 Q0s s27 rfl (Q00 e_w s29) ?_; clear hr; intro a17 w17 hc hu hr hs
 have hb : Below w.heap.size w16 w17 := hc.below e_w.size l17.1
 revert s4; revert s2; revert s0; refine kp3 hs rfl ?_; intro s0 s2 s4
 clear s28 s25 s26 s27 s29
 replace s2 := PxS.other (Q00 e_w13 s2) hc (by omega)
 replace s4 := hu _ _ _ (Q00 e_w13 s4)
 try simp only [List.set_cons_zero, List.set_cons_succ, Q2r] at s4
 replace e_w := e_w.below (Nat.le_refl _) hb
 clear e_w13
 clear hu hs hc hb
 refine wpList_nil ?_
 replace s4 := PxS.cast s4 (show _ = Q2r ⟨40, 40 + Q07 l 4, Q09 l 7, false, 0, Q09 l 6, adr6 l 8, ⟨true, List.replicate 16 0⟩⟩ from by rw [Qr9 (by simp; omega)]; rfl)
 refine es ?_
 refine Q1s Q08 (fun w18 x => ?_)
 show wpAny _ _ _ _ 6 _ _ _
 replace e_w := e_w.trans x
 have e_w17 := x
 clear x
 refine Q60 (l := [_, _, _, _, _, _]) 110 _ [false, false, false, false, false, true] [5] [[(4, none)], [(31, some 0)], [(32, some 1)], [(0, none)], [(34, some 3)], []] [?b19_0, ?b19_1, ?b19_2, ?b19_3, ?b19_4, VP.top] (by kernel_rfl) rfl (by kernel_rfl) hr ?t19 ?o19 ?_
 case o19 =>
  apply lc0; intro A W hx hf
  exact Q02 8 tu62 (k := 7) rfl Q0z rfl (o2 s4 e_w17 hx (r0 hf)) rfl
  apply lc0; intro A W hx hf
  exact Q02 9 tu25 (k := 1) rfl Q61 rfl (q0 ?b19_0 A W 31 hf) rfl
  apply lc0; intro A W hx hf
  exact Q7m tu23 Q0s (q0 ?b19_1 A W 32 hf) rfl
  apply lc0; intro A W hx hf
  exact Q01 (a0 := a17) (r0 hf)
  apply lc0; intro A W hx hf
  exact Q2e (24) tu22 Q0s (sarg s0 (show _ = _ from (q0 ?b19_3 A W 34 hf))) (ec A (.int .i64 24)) (by first | omega | decide | (simp; done) | (simp; omega))
  refine lcs ?_
  exact lcn
 case t19 => exact inferInstance
 clear hr; intro a20 w20 x hr hd hs
 have u34 := mv s0 (fa ?b19_3 a20 w20 34 (hd 3 34 rfl rfl))
 revert s4; revert s2; revert s0; refine kp3 hs rfl ?_; intro s0 s2 s4
 have s34 := u34; clear u34
 have s31 := fa ?b19_0 a20 w20 31 (hd 0 31 rfl rfl)
 have s32 := fa ?b19_1 a20 w20 32 (hd 1 32 rfl rfl)
 have s33 := fa ?b19_2 a20 w20 33 (hd 2 33 rfl rfl)
 have s35 := AtW.base (fa ?b19_4 a20 w20 35 (hd 4 35 rfl rfl))
 replace e_w := e_w.trans x
 replace e_w17 := e_w17.trans x; clear hd hs x
 show wpList _ _ _ [_] _ _
 have z21 := SxS.lt s33
 have l21 := (show (g12_4 = 0 ∨ w.heap.size < g12_4) ∧ True from ⟨by omega, trivial⟩)
 have l21_2 := PxS.lt (Q00 e_w17 s2)
 refine Q7n hr tu22 Q0s s33 rfl (Q00 e_w s35) ?_; clear hr; intro a21 w21 hc hu hr hs
 have hb : Below w.heap.size w20 w21 := hc.below e_w.size l21.1
 revert s4; revert s2; revert s0; refine kp3 hs rfl ?_; intro s0 s2 s4
 clear s34 s31 s32 s33 s35
 replace s2 := PxS.other (Q00 e_w17 s2) hc (by omega)
 replace s4 := hu _ _ _ (Q00 e_w17 s4)
 try simp only [List.set_cons_zero, List.set_cons_succ, Q2r] at s4
 replace e_w := e_w.below (Nat.le_refl _) hb
 clear e_w17
 clear hu hs hc hb
 refine wpList_nil ?_
 replace s4 := PxS.cast s4 (show _ = Q2r ⟨40, 40 + Q07 l 4, Q09 l 7, false, 0, Q09 l 6, adr6 l 8, adr6 l 24⟩ from by rw [Qr9 (by simp; omega)]; rfl)
 refine es ?_
 refine sq ?_
 refine Q04 110 [[(0, none)], [(37, some 0)], [(38, some 1)], [(39, some 2)], [(40, some 3)]] [?b22_0, ?b22_1, ?b22_2, ?b22_3, ?b22_4] Q08 hr ?t22 ?o22 ?_
 case o22 =>
  apply oc0; intro A W hx hf
  exact Q01 (a0 := a21) (r0 hf)
  apply oc0; intro A W hx hf
  exact Q12 (0) tu22 Q0s (p2 s0 e_w hx (q0 ?b22_0 A W 37 hf)) (ec A (.int .i64 0)) (by first | omega | decide | (simp; done) | (simp; omega))
  apply oc0; intro A W hx hf
  exact Q1d tu5 rfl (q0 ?b22_1 A W 38 hf)
  apply oc0; intro A W hx hf
  exact Qcz 4 (by decide) (q0 ?b22_2 A W 39 hf) (ec A (.int .u64 4))
  apply oc0; intro A W hx hf
  exact Q48 (q0 ?b22_3 A W 40 hf) (ec A (.int .u8 6))
  exact onn
 case t22 => exact inferInstance
 clear hr; intro a23 w23 x hr hd hs
 revert s4; revert s2; revert s0; refine kp3 hs rfl ?_; intro s0 s2 s4
 have s41 := fa ?b22_4 a23 w23 41 (hd 4 41 rfl)
 replace e_w := e_w.trans x
 have e_w21 := x; clear hd hs x
 refine et ?_
 refine wp_cond_split (show _ = _ from s41) (fun hv => ?_) (fun hv => ?_)
 ·
  have hv : Q09 l 0 / 16 ≠ 6 := by rw [e0] at hv; simpa using hv
  have hrd : Q0j l = (six0, 3) := by unfold Q0j; rw [if_neg hl, if_pos hv]
  refine sq ?_
  refine Q06 (l := [_]) (rest := [_, _]) 110 [[]] [?b25_0] hr ?t25 ?o25 ?_
  case o25 =>
   apply oc0; intro A W hx hf
   exact Q13 Q9p
   exact onn
  case t25 => exact inferInstance
  clear hr; intro a26 w26 x hr hd hs
  revert s2; refine kp1 hs rfl ?_; intro s2
  clear s0 s4 s41
  have s42 := fa ?b25_0 a26 w26 42 (hd 0 42 rfl)
  replace e_w := e_w.trans x
  replace e_w21 := e_w21.trans x; clear hd hs x
  have z27 := PxS.lt (Q00 e_w21 s2)
  have l27 := (show (g2_2 = 0 ∨ w.heap.size < g2_2) ∧ True from ⟨by omega, trivial⟩)
  refine Q0k hr Q4h (Q00 e_w21 s2) s42 (by exact Q8m Q58) (by exact Q6k) rfl ?_; clear hr; intro a27 w27 hc hu hr hs
  have hb : Below w.heap.size w26 w27 := hc.below e_w.size l27.1
  revert s2; refine kp1 hs rfl ?_; intro s2
  clear s42
  replace s2 := hu _ _ _ (Q00 e_w21 s2)
  try simp only [List.set_cons_zero, List.set_cons_succ, Q2r] at s2
  replace e_w := e_w.below (Nat.le_refl _) hb
  clear e_w21
  clear hu hs hc hb
  refine Q11 hr (Q05) inferInstance ?_; clear hr; intro a28 w28 x hr hd hs
  revert s2; refine kp1 hs rfl ?_; intro s2
  have s3 := hd 3 rfl (by decide)
  replace e_w := e_w.trans x
  have e_w27 := x; clear hd hs x
  refine wpList_nil ?_
  refine et ?_
  refine wp_ret ?_
  refine Q0e ?_
  refine Q0f Try.results72 hr tu62 rfl Q4h (Q00 e_w27 s2) e_w ?_
  (rw [hrd]; exact ⟨_, _, rfl, rfl, s3⟩)
 have hv : ¬ Q09 l 0 / 16 ≠ 6 := by rw [e0] at hv; simpa using hv
 refine wp_skip ?_
 refine es ?_
 refine sq ?_
 refine Q04 110 [[(4, none)], [(43, some 0)], [(0, none)], [(45, some 2)], [(44, some 1), (46, some 3)]] [?b29_0, ?b29_1, ?b29_2, ?b29_3, ?b29_4] Q08 hr ?t29 ?o29 ?_
 case o29 =>
  apply oc0; intro A W hx hf
  exact Q02 1 tu62 (k := 1) rfl Q0m rfl (o2 s4 e_w21 hx (r0 hf)) rfl
  apply oc0; intro A W hx hf
  exact Q0a tu3 rfl (q0 ?b29_0 A W 43 hf) rfl
  apply oc0; intro A W hx hf
  exact Q01 (a0 := a23) (r0 hf)
  apply oc0; intro A W hx hf
  exact Q0v tu22 (p2 s0 e_w hx (q0 ?b29_2 A W 45 hf))
  apply oc0; intro A W hx hf
  exact Q3m (q0 ?b29_1 A W 44 hf) (q1 ?b29_3 A W 46 hf)
  exact onn
 case t29 => exact inferInstance
 clear hr; intro a30 w30 x hr hd hs
 revert s4; revert s2; revert s0; refine kp3 hs rfl ?_; intro s0 s2 s4
 clear s41
 have s47 := fa ?b29_4 a30 w30 47 (hd 4 47 rfl)
 replace e_w := e_w.trans x
 replace e_w21 := e_w21.trans x; clear hd hs x
 refine et ?_
 refine wp_cond_split (show _ = _ from s47) (fun ht => ?_) (fun ht => ?_)
 ·
  have ht : 40 + Q07 l 4 > (l.length : Int) := by simpa using ht
  have hrd : Q0j l = (six0, 2) := by unfold Q0j; rw [if_neg hl, if_neg hv, if_pos ht]
  refine sq ?_
  refine Q06 (l := [_]) (rest := [_, _]) 110 [[]] [?b32_0] hr ?t32 ?o32 ?_
  case o32 =>
   apply oc0; intro A W hx hf
   exact Q13 Q9p
   exact onn
  case t32 => exact inferInstance
  clear hr; intro a33 w33 x hr hd hs
  revert s2; refine kp1 hs rfl ?_; intro s2
  clear s0 s4 s47
  have s48 := fa ?b32_0 a33 w33 48 (hd 0 48 rfl)
  replace e_w := e_w.trans x
  replace e_w21 := e_w21.trans x; clear hd hs x
  have z34 := PxS.lt (Q00 e_w21 s2)
  have l34 := (show (g2_2 = 0 ∨ w.heap.size < g2_2) ∧ True from ⟨by omega, trivial⟩)
  refine Q0k hr Q4h (Q00 e_w21 s2) s48 (by exact Q8m Q58) (by exact Q6k) rfl ?_; clear hr; intro a34 w34 hc hu hr hs
  have hb : Below w.heap.size w33 w34 := hc.below e_w.size l34.1
  revert s2; refine kp1 hs rfl ?_; intro s2
  clear s48
  replace s2 := hu _ _ _ (Q00 e_w21 s2)
  try simp only [List.set_cons_zero, List.set_cons_succ, Q2r] at s2
  replace e_w := e_w.below (Nat.le_refl _) hb
  clear e_w21
  clear hu hs hc hb
  refine Q11 hr (Q05) inferInstance ?_; clear hr; intro a35 w35 x hr hd hs
  revert s2; refine kp1 hs rfl ?_; intro s2
  have s3 := hd 3 rfl (by decide)
  replace e_w := e_w.trans x
  have e_w34 := x; clear hd hs x
  refine wpList_nil ?_
  refine et ?_
  refine wp_ret ?_
  refine Q0e ?_
  refine Q0f Try.results72 hr tu62 rfl Q4h (Q00 e_w34 s2) e_w ?_
  (rw [hrd]; exact ⟨_, _, rfl, rfl, s3⟩)
 have ht : ¬ 40 + Q07 l 4 > (l.length : Int) := by simpa using ht
 refine wp_skip ?_
 refine es ?_
 refine sq ?_
 refine Q04 110 [[(0, none)], [(4, none)], [(50, some 1)], [(49, some 0), (51, some 2)], [(52, some 3)]] [?b36_0, ?b36_1, ?b36_2, ?b36_3, ?b36_3] Q08 hr ?t36 ?o36 ?_
 case o36 =>
  apply oc0; intro A W hx hf
  exact Q01 (a0 := a30) (r0 hf)
  apply oc0; intro A W hx hf
  exact Q02 1 tu62 (k := 1) rfl Q0m rfl (o2 s4 e_w21 hx (r0 hf)) rfl
  apply oc0; intro A W hx hf
  exact Q0a tu3 rfl (q0 ?b36_1 A W 50 hf) rfl
  apply oc0; intro A W hx hf
  exact Q69 (40) ((40 + Q07 l 4).toNat) tu22 Q0s (sarg s0 (show _ = _ from (q0 ?b36_0 A W 49 hf))) (ec A (.int .i64 40)) (Is.int (q1 ?b36_2 A W 51 hf) (by show (40 + Q07 l 4 : Int) = _; omega)) (by omega) (by omega)
  apply oc0; intro A W hx hf
  exact Q03 (q0 ?b36_3 A W 52 hf)
  exact onn
 case t36 => exact inferInstance
 clear hr; intro a37 w37 x hr hd hs
 revert s4; revert s2; refine kp2 hs rfl ?_; intro s2 s4
 clear s0 s47
 have s5 := AtW.base (fa ?b36_3 a37 w37 5 (hd 4 5 rfl))
 replace e_w := e_w.trans x
 replace e_w21 := e_w21.trans x; clear hd hs x
 refine et ?_
 refine wp_block ?_
 refine Q14 (fun n A W => ∃ (kk : Nat) (R : List UInt8) (z : Int) (fr : Bool) (pr : Int), n = kk ∧ Fr 110 A ∧ Same Qf3 a37 A ∧ Ext w W ∧ (kk ≤ 8) ∧ ((R.length : Int) + z = 40 + Q07 l 4) ∧ (40 ≤ z) ∧ (Q0j l = Q32 (Q2l l) kk R z fr pr) ∧ (PxS g2_2 w.heap.size [40] [(sixS six0).flatten] 0) (A.eval (.tmp 2)) W ∧ (PxS g12_4 w.heap.size [1, 1, 1, 1, 1, 1, 1, 16, 1, 16] (Q2r ⟨z, 40 + Q07 l 4, Q09 l 7, fr, 8 - (kk : Int), pr, adr6 l 8, adr6 l 24⟩) 0) (A.eval (.tmp 4)) W ∧ (AtW w (Bs R)) (A.eval (.tmp 5)) W) ?start38 ?_
 case start38 =>
  refine ⟨_, 8, (subl l 40 (40 + Q07 l 4).toNat), 40, false, (Q09 l 6), rfl, hr, Same.rfl, e_w, (by omega), (by simp [subl]; omega), (by omega), (by unfold Q0j; rw [if_neg hl, if_neg hv, if_neg ht]; rfl), ?_, ?_, ?_⟩
  · exact (Q00 e_w21 s2)
  · exact (Q00 e_w21 s4)
  · exact s5
 intro n38 a38 w38 hI
 clear e_w
 clear e_w21
 clear hr; obtain ⟨kk, R, z, fr, pr, hn38, hr, hs, e_w, hk, hR, hz40, hsr, u2, u4, u5⟩ := hI
 clear s2 s4 s5
 have s2 := u2; clear u2
 have s4 := u4; clear u4
 have s5 := AtW.base u5; clear u5
 have m38 := hs; clear hs
 refine sq ?_
 refine sq ?_
 refine Q04 110 [[(4, none)], [(53, some 0)], [(54, some 1)], [(55, some 2)], [(4, none), (56, some 3)], [(57, some 4), (56, some 3)], [(58, some 5), (56, some 3)], [(56, some 3), (59, some 6)]] [?b39_0, ?b39_1, ?b39_2, ?b39_2, ?b39_4, ?b39_5, ?b39_6, ?b39_7] Q08 hr ?t39 ?o39 ?_
 case o39 =>
  apply oc0; intro A W hx hf
  exact Q02 3 tu62 (k := 3) rfl Q4r rfl (o1 s4 hx (r0 hf)) rfl
  apply oc0; intro A W hx hf
  exact Q0a tu4 rfl (q0 ?b39_0 A W 53 hf) rfl
  apply oc0; intro A W hx hf
  exact Q43 (q0 ?b39_1 A W 54 hf)
  apply oc0; intro A W hx hf
  exact Q0h (q0 ?b39_2 A W 55 hf)
  refine ocg 56 ?_ (fun A W hx hf => ?_) ?_
  rfl
  exact gd_t (q1 ?b39_2 A W 56 hf) (fun hc => Q02 5 tu62 (k := 5) rfl Q0m rfl (o1 s4 hx (r0 hf)) rfl)
  refine ocg 56 ?_ (fun A W hx hf => ?_) ?_
  rfl
  exact gd_t (q1 ?b39_2 A W 56 hf) (fun hc => Q0a tu3 rfl (G.get (q0 ?b39_4 A W 57 hf) hc) rfl)
  refine ocg 56 ?_ (fun A W hx hf => ?_) ?_
  rfl
  exact gd_t (q1 ?b39_2 A W 56 hf) (fun hc => Q18 Qqc (Qrh (G.get (q0 ?b39_5 A W 58 hf) hc)))
  apply oc0; intro A W hx hf
  exact Q2p (q0 ?b39_2 A W 56 hf) (q1 ?b39_6 A W 59 hf)
  exact onn
 case t39 => exact inferInstance
 clear hr; intro a40 w40 x hr hd hs
 revert s5; revert s4; revert s2; refine kp3 hs rfl ?_; intro s2 s4 s5
 have s60 := fa ?b39_7 a40 w40 60 (hd 7 60 rfl)
 replace e_w := e_w.trans x
 have e_w38 := x
 replace m38 := m38.tr hs rfl; clear hd hs x
 refine et ?_
 refine wp_cond_split (show _ = _ from s60) (fun hgo => ?_) (fun hgo => ?_)
 ·
  have hgo := Qr8 hgo
  have hext := Qc3 hgo
  refine wp_skip ?_
  refine es ?_
  refine wp_block ?_
  refine sq ?_
  refine sq ?_
  refine Q04 110 [[(4, none)], [(65, some 0)], [(66, some 1)]] [?b42_0, ?b42_1, ?b42_2] Q08 hr ?t42 ?o42 ?_
  case o42 =>
   apply oc0; intro A W hx hf
   exact Q02 4 tu62 (k := 4) rfl Q0m rfl (o2 s4 e_w38 hx (r0 hf)) rfl
   apply oc0; intro A W hx hf
   exact Q0a tu3 rfl (q0 ?b42_0 A W 65 hf) rfl
   apply oc0; intro A W hx hf
   exact Q1i (q0 ?b42_1 A W 66 hf) (ec A (.int .i64 8))
   exact onn
  case t42 => exact inferInstance
  clear hr; intro a43 w43 x hr hd hs
  revert s5; revert s4; revert s2; refine kp3 hs rfl ?_; intro s2 s4 s5
  clear s60
  have s67 := fa ?b42_2 a43 w43 67 (hd 2 67 rfl)
  replace e_w := e_w.trans x
  replace e_w38 := e_w38.trans x
  replace m38 := m38.tr hs rfl; clear hd hs x
  refine et ?_
  refine wp_cond_split (show _ = _ from s67) (fun hk8 => ?_) (fun hk8 => ?_)
  ·
   have hk8 : kk = 0 := by simp at hk8; omega
   rw [hk8] at hsr
   have hrd := hsr.trans (Q4b hgo)
   refine sq ?_
   refine Q06 (l := [_]) (rest := [_, _]) 110 [[]] [?b45_0] hr ?t45 ?o45 ?_
   case o45 =>
    apply oc0; intro A W hx hf
    exact Q13 Q9p
    exact onn
   case t45 => exact inferInstance
   clear hr; intro a46 w46 x hr hd hs
   revert s2; refine kp1 hs rfl ?_; intro s2
   clear s4 s5 s67
   have s68 := fa ?b45_0 a46 w46 68 (hd 0 68 rfl)
   replace e_w := e_w.trans x
   replace e_w38 := e_w38.trans x
   replace m38 := m38.tr hs rfl; clear hd hs x
   have z47 := PxS.lt (Q00 e_w38 s2)
   have l47 := (show (g2_2 = 0 ∨ w.heap.size < g2_2) ∧ True from ⟨by omega, trivial⟩)
   refine Q0k hr Q4h (Q00 e_w38 s2) s68 (by exact Q8m Q58) (by exact Q6k) rfl ?_; clear hr; intro a47 w47 hc hu hr hs
   have hb : Below w.heap.size w46 w47 := hc.below e_w.size l47.1
   revert s2; refine kp1 hs rfl ?_; intro s2
   clear s68
   replace s2 := hu _ _ _ (Q00 e_w38 s2)
   try simp only [List.set_cons_zero, List.set_cons_succ, Q2r] at s2
   replace e_w := e_w.below (Nat.le_refl _) hb
   clear e_w38
   replace m38 := m38.tr hs rfl
   clear hu hs hc hb
   refine Q11 hr (Q05) inferInstance ?_; clear hr; intro a48 w48 x hr hd hs
   revert s2; refine kp1 hs rfl ?_; intro s2
   have s3 := hd 3 rfl (by decide)
   replace e_w := e_w.trans x
   have e_w47 := x
   replace m38 := m38.tr hs rfl; clear hd hs x
   refine wpList_nil ?_
   refine et ?_
   refine wp_ret ?_
   refine Q0e ?_
   refine Q1t ?_
   refine Q0e ?_
   refine Q0e ?_
   refine Q1t ?_
   refine Q0e ?_
   refine Q0f Try.results72 hr tu62 rfl Q4h (Q00 e_w47 s2) e_w ?_
   (rw [hrd]; exact ⟨_, _, rfl, rfl, s3⟩)
  have hk8 : kk ≠ 0 := by simp at hk8; omega
  obtain ⟨kq, hkq⟩ : ∃ q, kk = q + 1 := ⟨kk - 1, by omega⟩
  rw [hkq] at hsr
  have b0 := Q1q R 0
  have b1 := Q1q R 1
  have b2 := Q0w R 2
  have hge := Q9c hext b1.1
  have hle := Qlo (p := pr) b1
  refine wp_skip ?_
  refine es ?_
  refine sq ?_
  refine Q04 110 [[(5, none)], [(69, some 0)], [(70, some 1)], [(71, some 2)], [(5, none), (72, some 3)], [(73, some 4), (72, some 3)], [(4, none), (72, some 3)], [(75, some 6), (72, some 3)], [(5, none), (72, some 3)], [(76, some 7), (77, some 8), (72, some 3)], [(74, some 5), (78, some 9), (72, some 3)], [(72, some 3), (79, some 10)]] [?b49_0, ?b49_1, ?b49_2, ?b49_2, ?b49_4, ?b49_5, ?b49_6, ?b49_7, ?b49_8, ?b49_9, ?b49_10, ?b49_11] Q08 hr ?t49 ?o49 ?_
  case o49 =>
   apply oc0; intro A W hx hf
   exact Q01 (a0 := a43) (r0 hf)
   apply oc0; intro A W hx hf
   exact Q0v tu22 (p2 s5 e_w hx (q0 ?b49_0 A W 69 hf))
   apply oc0; intro A W hx hf
   exact Q1b (q0 ?b49_1 A W 70 hf) (ec A (.int .i64 8))
   apply oc0; intro A W hx hf
   exact Q0h (q0 ?b49_2 A W 71 hf)
   refine ocg 72 ?_ (fun A W hx hf => ?_) ?_
   rfl
   exact gd_f (q1 ?b49_2 A W 72 hf) (fun hc => Q01 (a0 := a43) (r0 hf))
   refine ocg 72 ?_ (fun A W hx hf => ?_) ?_
   rfl
   exact gd_f (q1 ?b49_2 A W 72 hf) (fun hc => Q0v tu22 (p2 s5 e_w hx (G.get (q0 ?b49_4 A W 73 hf) hc)))
   refine ocg 72 ?_ (fun A W hx hf => ?_) ?_
   rfl
   exact gd_f (q1 ?b49_2 A W 72 hf) (fun hc => Q02 5 tu62 (k := 5) rfl Q0m rfl (o2 s4 e_w38 hx (r0 hf)) rfl)
   refine ocg 72 ?_ (fun A W hx hf => ?_) ?_
   rfl
   exact gd_f (q1 ?b49_2 A W 72 hf) (fun hc => Q0a tu3 rfl (G.get (q0 ?b49_6 A W 75 hf) hc) rfl)
   refine ocg 72 ?_ (fun A W hx hf => ?_) ?_
   rfl
   exact gd_f (q1 ?b49_2 A W 72 hf) (fun hc => Q01 (a0 := a43) (r0 hf))
   refine ocg 72 ?_ (fun A W hx hf => ?_) ?_
   rfl
   exact gd_f (q2 ?b49_2 A W 72 hf) (fun hc => Q0p Qio (Qf2 (G.get (q0 ?b49_7 A W 76 hf) hc) (p2 s5 e_w hx (G.get (q1 ?b49_8 A W 77 hf) hc)) (by simp at hc; omega)))
   refine ocg 72 ?_ (fun A W hx hf => ?_) ?_
   rfl
   exact gd_f (q2 ?b49_2 A W 72 hf) (fun hc => Q1b (G.get (q0 ?b49_5 A W 74 hf) hc) (G.get (q1 ?b49_9 A W 78 hf) hc))
   apply oc0; intro A W hx hf
   exact Q3o (q0 ?b49_2 A W 72 hf) (q1 ?b49_10 A W 79 hf)
   exact onn
  case t49 => exact inferInstance
  clear hr; intro a50 w50 x hr hd hs
  revert s5; revert s4; revert s2; refine kp3 hs rfl ?_; intro s2 s4 s5
  clear s67
  have s80 := fa ?b49_11 a50 w50 80 (hd 11 80 rfl)
  replace e_w := e_w.trans x
  replace e_w38 := e_w38.trans x
  replace m38 := m38.tr hs rfl; clear hd hs x
  refine et ?_
  refine wp_cond_split (show _ = _ from s80) (fun he => ?_) (fun he => ?_)
  ·
   have he : (R.length : Int) < 8 ∨ (R.length : Int) < Q38 pr (Q09 R 1) := by simpa using he
   have hrd := hsr.trans (Q5c hgo he)
   refine sq ?_
   refine Q06 (l := [_]) (rest := [_, _]) 110 [[]] [?b52_0] hr ?t52 ?o52 ?_
   case o52 =>
    apply oc0; intro A W hx hf
    exact Q13 Q9p
    exact onn
   case t52 => exact inferInstance
   clear hr; intro a53 w53 x hr hd hs
   revert s2; refine kp1 hs rfl ?_; intro s2
   clear s4 s5 s80
   have s81 := fa ?b52_0 a53 w53 81 (hd 0 81 rfl)
   replace e_w := e_w.trans x
   replace e_w38 := e_w38.trans x
   replace m38 := m38.tr hs rfl; clear hd hs x
   have z54 := PxS.lt (Q00 e_w38 s2)
   have l54 := (show (g2_2 = 0 ∨ w.heap.size < g2_2) ∧ True from ⟨by omega, trivial⟩)
   refine Q0k hr Q4h (Q00 e_w38 s2) s81 (by exact Q8m Q58) (by exact Q6k) rfl ?_; clear hr; intro a54 w54 hc hu hr hs
   have hb : Below w.heap.size w53 w54 := hc.below e_w.size l54.1
   revert s2; refine kp1 hs rfl ?_; intro s2
   clear s81
   replace s2 := hu _ _ _ (Q00 e_w38 s2)
   try simp only [List.set_cons_zero, List.set_cons_succ, Q2r] at s2
   replace e_w := e_w.below (Nat.le_refl _) hb
   clear e_w38
   replace m38 := m38.tr hs rfl
   clear hu hs hc hb
   refine Q11 hr (Q05) inferInstance ?_; clear hr; intro a55 w55 x hr hd hs
   revert s2; refine kp1 hs rfl ?_; intro s2
   have s3 := hd 3 rfl (by decide)
   replace e_w := e_w.trans x
   have e_w54 := x
   replace m38 := m38.tr hs rfl; clear hd hs x
   refine wpList_nil ?_
   refine et ?_
   refine wp_ret ?_
   refine Q0e ?_
   refine Q1t ?_
   refine Q0e ?_
   refine Q0e ?_
   refine Q1t ?_
   refine Q0e ?_
   refine Q0f Try.results72 hr tu62 rfl Q4h (Q00 e_w54 s2) e_w ?_
   (rw [hrd]; exact ⟨_, _, rfl, rfl, s3⟩)
  have he : ¬ ((R.length : Int) < 8 ∨ (R.length : Int) < Q38 pr (Q09 R 1)) := by simp only [Bool.or_eq_false_iff, decide_eq_false_iff_not] at he; omega
  replace hsr := hsr.trans (Q3y hgo he)
  have e9 : (R[0]'(by omega)).toNat = Q09 R 0 := (Q10 (by omega)).symm
  refine wp_skip ?_
  refine es ?_
  refine Q04 110 [[(4, none)], [(82, some 0)], [(5, none)], [(83, some 1), (84, some 2)], [(85, some 3)]] [?b56_0, ?b56_1, ?b56_2, ?b56_3, ?b56_3] Q08 hr ?t56 ?o56 ?_
  case o56 =>
   apply oc0; intro A W hx hf
   exact Q02 5 tu62 (k := 5) rfl Q0m rfl (o2 s4 e_w38 hx (r0 hf)) rfl
   apply oc0; intro A W hx hf
   exact Q0a tu3 rfl (q0 ?b56_0 A W 82 hf) rfl
   apply oc0; intro A W hx hf
   exact Q01 (a0 := a50) (r0 hf)
   apply oc0; intro A W hx hf
   exact Q0p Qio (Qf2 (q0 ?b56_1 A W 83 hf) (p2 s5 e_w hx (q1 ?b56_2 A W 84 hf)) (by omega))
   apply oc0; intro A W hx hf
   exact Q03 (q0 ?b56_3 A W 85 hf)
   exact onn
  case t56 => exact inferInstance
  clear hr; intro a57 w57 x hr hd hs
  revert s5; revert s4; revert s2; refine kp3 hs rfl ?_; intro s2 s4 s5
  clear s80
  have s6 := fa ?b56_3 a57 w57 6 (hd 4 6 rfl)
  replace e_w := e_w.trans x
  replace e_w38 := e_w38.trans x
  replace m38 := m38.tr hs rfl; clear hd hs x
  replace s6 := Is.int s6 (show _ = Q38 pr (Q09 R 1) from rfl)
  refine es ?_
  refine Q06 (l := [_, _, _, _, _, _, _, _, _, _]) (rest := [_]) 110 [[(4, none)], [(86, some 0)], [(87, some 1)], [(88, some 2)], [(5, none), (89, some 3)], [(90, some 4), (89, some 3)], [(91, some 5), (89, some 3)], [(92, some 6), (89, some 3)], [(89, some 3), (93, some 7)], [(4, none)]] [?b58_0, ?b58_1, ?b58_2, ?b58_2, ?b58_4, ?b58_5, ?b58_6, ?b58_7, ?b58_8, ?b58_9] hr ?t58 ?o58 ?_
  case o58 =>
   apply oc0; intro A W hx hf
   exact Q02 5 tu62 (k := 5) rfl Q0m rfl (o2 s4 e_w38 hx (r0 hf)) rfl
   apply oc0; intro A W hx hf
   exact Q0a tu3 rfl (q0 ?b58_0 A W 86 hf) rfl
   apply oc0; intro A W hx hf
   exact Q1i (q0 ?b58_1 A W 87 hf) (ec A (.int .i64 44))
   apply oc0; intro A W hx hf
   exact Q0h (q0 ?b58_2 A W 88 hf)
   refine ocg 89 ?_ (fun A W hx hf => ?_) ?_
   rfl
   exact gd_t (q1 ?b58_2 A W 89 hf) (fun hc => Q01 (a0 := a57) (r0 hf))
   refine ocg 89 ?_ (fun A W hx hf => ?_) ?_
   rfl
   exact gd_t (q1 ?b58_2 A W 89 hf) (fun hc => Q0p Qmv (Qn9 (p2 s5 e_w hx (G.get (q0 ?b58_4 A W 90 hf) hc)) (show Is (.int .i64 2) (A.eval (.const (.int .i64 2))) _ from rfl) (by decide) (by omega)))
   refine ocg 89 ?_ (fun A W hx hf => ?_) ?_
   rfl
   exact gd_t (q1 ?b58_2 A W 89 hf) (fun hc => Qbo (G.get (q0 ?b58_5 A W 91 hf) hc) (ec A (.int .i64 65529)))
   refine ocg 89 ?_ (fun A W hx hf => ?_) ?_
   rfl
   exact gd_t (q1 ?b58_2 A W 89 hf) (fun hc => Q48 (G.get (q0 ?b58_6 A W 92 hf) hc) (ec A (.int .i64 0)))
   apply oc0; intro A W hx hf
   exact Q2p (q0 ?b58_2 A W 89 hf) (q1 ?b58_7 A W 93 hf)
   apply oc0; intro A W hx hf
   exact Q02 3 tu62 (k := 3) rfl Q4r rfl (o2 s4 e_w38 hx (r0 hf)) rfl
   exact onn
  case t58 => exact inferInstance
  clear hr; intro a59 w59 x hr hd hs
  revert s6; revert s5; revert s4; revert s2; refine kp4 hs rfl ?_; intro s2 s4 s5 s6
  have s94 := fa ?b58_8 a59 w59 94 (hd 8 94 rfl)
  have s95 := fa ?b58_9 a59 w59 95 (hd 9 95 rfl)
  replace e_w := e_w.trans x
  replace e_w38 := e_w38.trans x
  have e_w57 := x
  replace m38 := m38.tr hs rfl; clear hd hs x
  have z60 := PxS.lt s95
  have l60 := (show (g12_4 = 0 ∨ w.heap.size < g12_4) ∧ True from ⟨by omega, trivial⟩)
  have l60_2 := PxS.lt (Q00 e_w38 s2)
  refine Q1z hr Q4r s95 (Is.bool s94 (show (_ && (Q7i .i64 (Q07 R 2) 65529 != 0)) = (pr == 44 && Qb0 R) from by rw [Qjv])) (by rfl) rfl ?_; clear hr; intro a60 w60 hc hu hr hs
  have hb : Below w.heap.size w59 w60 := hc.below e_w.size l60.1
  revert s6; revert s5; revert s4; revert s2; refine kp4 hs rfl ?_; intro s2 s4 s5 s6
  clear s94 s95
  replace s2 := PxS.other (Q00 e_w38 s2) hc (by omega)
  replace s4 := hu _ _ _ (Q00 e_w38 s4)
  try simp only [List.set_cons_zero, List.set_cons_succ, Q2r] at s4
  replace e_w := e_w.below (Nat.le_refl _) hb
  clear e_w38
  clear e_w57
  replace s6 := anyw (w2 := w60) s6
  replace m38 := m38.tr hs rfl
  clear hu hs hc hb
  refine wpList_nil ?_
  refine es ?_
  refine Q06 (l := [_, _, _, _, _]) (rest := [_]) 110 [[(5, none)], [(96, some 0)], [(97, some 1)], [(98, some 2)], [(4, none)]] [?b61_0, ?b61_1, ?b61_2, ?b61_3, ?b61_4] hr ?t61 ?o61 ?_
  case o61 =>
   apply oc0; intro A W hx hf
   exact Q01 (a0 := a60) (r0 hf)
   apply oc0; intro A W hx hf
   exact Q12 (0) tu22 Q0s (p2 s5 e_w hx (q0 ?b61_0 A W 96 hf)) (ec A (.int .i64 0)) (by first | omega | decide | (simp; done) | (simp; omega))
   apply oc0; intro A W hx hf
   exact Q1d tu5 rfl (q0 ?b61_1 A W 97 hf)
   apply oc0; intro A W hx hf
   exact Q2k tu5 tu3 (by decide) (q0 ?b61_2 A W 98 hf)
   apply oc0; intro A W hx hf
   exact Q02 5 tu62 (k := 5) rfl Q0m rfl (o1 s4 hx (r0 hf)) rfl
   exact onn
  case t61 => exact inferInstance
  clear hr; intro a62 w62 x hr hd hs
  revert s6; revert s4; revert s2; revert s5; refine kp4 hs rfl ?_; intro s5 s2 s4 s6
  have s99 := fa ?b61_3 a62 w62 99 (hd 3 99 rfl)
  have s100 := fa ?b61_4 a62 w62 100 (hd 4 100 rfl)
  replace e_w := e_w.trans x
  have e_w60 := x
  replace m38 := m38.tr hs rfl; clear hd hs x
  have z63 := PxS.lt s100
  have l63 := (show (g12_4 = 0 ∨ w.heap.size < g12_4) ∧ True from ⟨by omega, trivial⟩)
  have l63_2 := PxS.lt (Q00 e_w60 s2)
  refine Q1z hr Q0m s100 (Is.int s99 e9) (by rfl) rfl ?_; clear hr; intro a63 w63 hc hu hr hs
  have hb : Below w.heap.size w62 w63 := hc.below e_w.size l63.1
  revert s6; revert s4; revert s2; revert s5; refine kp4 hs rfl ?_; intro s5 s2 s4 s6
  clear s99 s100
  replace s2 := PxS.other (Q00 e_w60 s2) hc (by omega)
  replace s4 := hu _ _ _ (Q00 e_w60 s4)
  try simp only [List.set_cons_zero, List.set_cons_succ, Q2r] at s4
  replace e_w := e_w.below (Nat.le_refl _) hb
  clear e_w60
  replace s6 := anyw (w2 := w63) s6
  replace m38 := m38.tr hs rfl
  clear hu hs hc hb
  refine wpList_nil ?_
  refine es ?_
  refine Q06 (l := [_, _, _, _, _]) (rest := [_]) 110 [[(4, none)], [(101, some 0)], [(6, none)], [(102, some 1), (103, some 2)], [(4, none)]] [?b64_0, ?b64_1, ?b64_2, ?b64_3, ?b64_4] hr ?t64 ?o64 ?_
  case o64 =>
   apply oc0; intro A W hx hf
   exact Q02 0 tu62 (k := 0) rfl Q0m rfl (o1 s4 hx (r0 hf)) rfl
   apply oc0; intro A W hx hf
   exact Q0a tu3 rfl (q0 ?b64_0 A W 101 hf) rfl
   apply oc0; intro A W hx hf
   exact Q01 (a0 := a63) (r0 hf)
   apply oc0; intro A W hx hf
   exact Q0o (q0 ?b64_1 A W 102 hf) (p1 s6 hx (q1 ?b64_2 A W 103 hf)) (by omega)
   apply oc0; intro A W hx hf
   exact Q02 0 tu62 (k := 0) rfl Q0m rfl (o1 s4 hx (r0 hf)) rfl
   exact onn
  case t64 => exact inferInstance
  clear hr; intro a65 w65 x hr hd hs
  revert s6; revert s4; revert s2; revert s5; refine kp4 hs rfl ?_; intro s5 s2 s4 s6
  have s104 := fa ?b64_3 a65 w65 104 (hd 3 104 rfl)
  have s105 := fa ?b64_4 a65 w65 105 (hd 4 105 rfl)
  replace e_w := e_w.trans x
  have e_w63 := x
  replace m38 := m38.tr hs rfl; clear hd hs x
  have z66 := PxS.lt s105
  have l66 := (show (g12_4 = 0 ∨ w.heap.size < g12_4) ∧ True from ⟨by omega, trivial⟩)
  have l66_2 := PxS.lt (Q00 e_w63 s2)
  refine Q1z hr Q0m s105 s104 (by rfl) rfl ?_; clear hr; intro a66 w66 hc hu hr hs
  have hb : Below w.heap.size w65 w66 := hc.below e_w.size l66.1
  revert s6; revert s4; revert s2; revert s5; refine kp4 hs rfl ?_; intro s5 s2 s4 s6
  clear s104 s105
  replace s2 := PxS.other (Q00 e_w63 s2) hc (by omega)
  replace s4 := hu _ _ _ (Q00 e_w63 s4)
  try simp only [List.set_cons_zero, List.set_cons_succ, Q2r] at s4
  replace e_w := e_w.below (Nat.le_refl _) hb
  clear e_w63
  replace s6 := anyw (w2 := w66) s6
  replace m38 := m38.tr hs rfl
  clear hu hs hc hb
  refine wpList_nil ?_
  refine et ?_
  refine Q04 110 [[(5, none)], [(6, none)], [(106, some 0), (107, some 1)], [(108, some 2)]] [?b67_0, ?b67_1, ?b67_2, ?b67_2] Q08 hr ?t67 ?o67 ?_
  case o67 =>
   apply oc0; intro A W hx hf
   exact Q01 (a0 := a66) (r0 hf)
   apply oc0; intro A W hx hf
   exact Q01 (a0 := a66) (r0 hf)
   apply oc0; intro A W hx hf
   exact Q2e ((Q38 pr (Q09 R 1)).toNat) tu22 Q0s (sarg s5 (show _ = _ from (q0 ?b67_0 A W 106 hf))) (Is.int (p1 s6 hx (q1 ?b67_1 A W 107 hf)) (by omega)) (by omega)
   apply oc0; intro A W hx hf
   exact Q03 (q0 ?b67_2 A W 108 hf)
   exact onn
  case t67 => exact inferInstance
  clear hr; intro a68 w68 x hr hd hs
  revert s4; revert s2; refine kp2 hs rfl ?_; intro s2 s4
  clear s5 s6
  have s5 := AtW.base (fa ?b67_2 a68 w68 5 (hd 3 5 rfl))
  replace e_w := e_w.trans x
  have e_w66 := x
  replace m38 := m38.tr hs rfl; clear hd hs x
  refine Q0x ?_
  refine et ?_
  refine Q06 (l := [_, _, _, _]) (rest := [_]) 110 [[(4, none)], [(61, some 0)], [(62, some 1)], [(4, none)]] [?b69_0, ?b69_1, ?b69_2, ?b69_3] hr ?t69 ?o69 ?_
  case o69 =>
   apply oc0; intro A W hx hf
   exact Q02 4 tu62 (k := 4) rfl Q0m rfl (o2 s4 e_w66 hx (r0 hf)) rfl
   apply oc0; intro A W hx hf
   exact Q0a tu3 rfl (q0 ?b69_0 A W 61 hf) rfl
   apply oc0; intro A W hx hf
   exact Q0o (q0 ?b69_1 A W 62 hf) (ec A (.int .i64 1)) (by omega)
   apply oc0; intro A W hx hf
   exact Q02 4 tu62 (k := 4) rfl Q0m rfl (o2 s4 e_w66 hx (r0 hf)) rfl
   exact onn
  case t69 => exact inferInstance
  clear hr; intro a70 w70 x hr hd hs
  revert s5; revert s4; revert s2; refine kp3 hs rfl ?_; intro s2 s4 s5
  have s63 := fa ?b69_2 a70 w70 63 (hd 2 63 rfl)
  have s64 := fa ?b69_3 a70 w70 64 (hd 3 64 rfl)
  replace e_w := e_w.trans x
  replace e_w66 := e_w66.trans x
  replace m38 := m38.tr hs rfl; clear hd hs x
  have z71 := PxS.lt s64
  have l71 := (show (g12_4 = 0 ∨ w.heap.size < g12_4) ∧ True from ⟨by omega, trivial⟩)
  have l71_2 := PxS.lt (Q00 e_w66 s2)
  refine Q1z hr Q0m s64 (Is.int s63 (show _ = 8 - (kq : Int) from by omega)) (by rfl) rfl ?_; clear hr; intro a71 w71 hc hu hr hs
  have hb : Below w.heap.size w70 w71 := hc.below e_w.size l71.1
  revert s5; revert s4; revert s2; refine kp3 hs rfl ?_; intro s2 s4 s5
  clear s63 s64
  replace s2 := PxS.other (Q00 e_w66 s2) hc (by omega)
  replace s4 := hu _ _ _ (Q00 e_w66 s4)
  try simp only [List.set_cons_zero, List.set_cons_succ, Q2r] at s4
  replace e_w := e_w.below (Nat.le_refl _) hb
  clear e_w66
  replace m38 := m38.tr hs rfl
  clear hu hs hc hb
  refine wpList_nil ?_
  refine et ?_
  refine ⟨(fun (kk : Nat) (R : List UInt8) (z : Int) (fr : Bool) (pr : Int) => kk) (kq) ((R.drop (Q38 pr (Q09 R 1)).toNat)) (z + Q38 pr (Q09 R 1)) ((pr == 44 && Qb0 R)) ((Q09 R 0)), ?_, ?_⟩
  · (try dsimp only); omega
  refine ⟨kq, (R.drop (Q38 pr (Q09 R 1)).toNat), z + Q38 pr (Q09 R 1), (pr == 44 && Qb0 R), (Q09 R 0), rfl, hr, m38, e_w, (by omega), (by simp only [List.length_drop]; omega), (by omega), (by exact hsr), ?_, ?_, ?_⟩
  · exact s2
  · exact s4
  · exact s5
 have hgo := Qlq hgo
 have hrd := hsr.trans (Q22 hgo)
 refine wp_exit ?_
 refine Q0g ?_
 refine Q0g ?_
 refine Q1a ?_
 refine es ?_
 refine Q06 (l := [_]) (rest := [_, _]) 110 [[(4, none)]] [?b72_0] hr ?t72 ?o72 ?_
 case o72 =>
  apply oc0; intro A W hx hf
  exact Q0b 10 tu62 rfl Q4h (o2 s4 e_w38 hx (r0 hf)) rfl
  exact onn
 case t72 => exact inferInstance
 clear hr; intro a73 w73 x hr hd hs
 revert s2; refine kp1 hs rfl ?_; intro s2
 clear s4 s5 s60
 have s109 := fa ?b72_0 a73 w73 109 (hd 0 109 rfl)
 replace e_w := e_w.trans x
 replace e_w38 := e_w38.trans x; clear hd hs x
 have z74 := PxS.lt (Q00 e_w38 s2)
 have l74 := (show (g2_2 = 0 ∨ w.heap.size < g2_2) ∧ True from ⟨by omega, trivial⟩)
 refine Q0k hr Q4h (Q00 e_w38 s2) (Is.conv s109 (Qo6 (X := ⟨z, 40 + Q07 l 4, Q09 l 7, fr, 8 - (kk : Int), pr, adr6 l 8, adr6 l 24⟩))) (by exact Q8m ⟨Q9e (by omega), Q9e (by omega)⟩) (by exact Q6k) rfl ?_; clear hr; intro a74 w74 hc hu hr hs
 have hb : Below w.heap.size w73 w74 := hc.below e_w.size l74.1
 revert s2; refine kp1 hs rfl ?_; intro s2
 clear s109
 replace s2 := hu _ _ _ (Q00 e_w38 s2)
 try simp only [List.set_cons_zero, List.set_cons_succ, Q2r] at s2
 replace e_w := e_w.below (Nat.le_refl _) hb
 clear e_w38
 clear hu hs hc hb
 refine Q11 hr (Q05) inferInstance ?_; clear hr; intro a75 w75 x hr hd hs
 revert s2; refine kp1 hs rfl ?_; intro s2
 have s3 := hd 3 rfl (by decide)
 replace e_w := e_w.trans x
 have e_w74 := x; clear hd hs x
 refine wpList_nil ?_
 refine et ?_
 refine wp_ret ?_
 refine Q0f Try.results72 hr tu62 rfl Q4h (Q00 e_w74 s2) e_w ?_
 (rw [hrd]; exact ⟨_, _, rfl, rfl, s3⟩)

end Go.Proofs.Ytlmdboaghojgiaa
