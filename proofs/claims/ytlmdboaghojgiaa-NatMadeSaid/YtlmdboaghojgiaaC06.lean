import Derived.Test.YtlmdboaghojgiaaFacts
import Derived.Test.YtlmdboaghojgiaaS06
import Derived.Test.YtlmdboaghojgiaaW
namespace Go.Proofs.Ytlmdboaghojgiaa
open Go.RowKit
set_option linter.unusedVariables false
set_option linter.unusedSimpArgs false
set_option maxRecDepth 4000
theorem Qk5 {x0 x1 : Value} {w : World} {a b : Int} (h0 : (Is (.int .u32 a)) x0 w) (h1 : (Is (.int .u32 b)) x1 w) (hab : (0 ≤ a ∧ a ≤ 65535) ∧ 0 ≤ b ∧ b ≤ 65535) :
    Calls Try.prog 75 #[x0, x1] w (Ret (Is (.int .u32 (ring a b))) w) := by
 refine enter Try.func75 rfl Try.ntmps75 (k := 2) rfl (by decide) (fun a0 hr hargs => ?_)
 have s0 := sarg h0 (hargs 0 (by decide))
 have s1 := sarg h1 (hargs 1 (by decide))
 clear hargs
 refine sq ?_
 refine Q04 14 [[]] [?b1_0] Q08 hr ?t1 ?o1 ?_
 case o1 =>
  apply oc0; intro A W hx hf
  exact Q05
  exact onn
 case t1 => exact inferInstance
 clear hr; intro a2 w2 x hr hd hs
 revert s1; revert s0; refine kp2 hs rfl ?_; intro s0 s1
 have e_w := x; clear hd hs x
 refine es ?_
 refine Q04 14 [[(0, none)], [(1, none)], [(6, some 0), (7, some 1)], [(8, some 2)]] [?b3_0, ?b3_1, ?b3_2, ?b3_2] Q08 hr ?t3 ?o3 ?_
 case o3 =>
  apply oc0; intro A W hx hf
  exact Q01 (a0 := a2) (r0 hf)
  apply oc0; intro A W hx hf
  exact Q01 (a0 := a2) (r0 hf)
  apply oc0; intro A W hx hf
  exact Qhy (p2 s0 e_w hx (q0 ?b3_0 A W 6 hf)) (p2 s1 e_w hx (q1 ?b3_1 A W 7 hf))
  apply oc0; intro A W hx hf
  exact Q03 (q0 ?b3_2 A W 8 hf)
  exact onn
 case t3 => exact inferInstance
 clear hr; intro a4 w4 x hr hd hs
 clear s0 s1
 have s5 := fa ?b3_2 a4 w4 5 (hd 3 5 rfl)
 replace e_w := e_w.trans x; clear hd hs x
 refine es ?_
 refine Q04 14 [[(5, none)], [(9, some 0)], [(5, none)], [(11, some 2)], [(10, some 1), (12, some 3)], [(13, some 4)]] [?b5_0, ?b5_1, ?b5_2, ?b5_3, ?b5_4, ?b5_4] Q08 hr ?t5 ?o5 ?_
 case o5 =>
  apply oc0; intro A W hx hf
  exact Q01 (a0 := a4) (r0 hf)
  apply oc0; intro A W hx hf
  exact Qbo (p1 s5 hx (q0 ?b5_0 A W 9 hf)) (ec A (.int .u32 65535))
  apply oc0; intro A W hx hf
  exact Q01 (a0 := a4) (r0 hf)
  apply oc0; intro A W hx hf
  exact Qcz 16 (by decide) (p1 s5 hx (q0 ?b5_2 A W 11 hf)) (ec A (.int .u64 16))
  apply oc0; intro A W hx hf
  exact Qhy (q0 ?b5_1 A W 10 hf) (q1 ?b5_3 A W 12 hf)
  apply oc0; intro A W hx hf
  exact Q03 (q0 ?b5_4 A W 13 hf)
  exact onn
 case t5 => exact inferInstance
 clear hr; intro a6 w6 x hr hd hs
 clear s5
 have s4 := fa ?b5_4 a6 w6 4 (hd 5 4 rfl)
 replace e_w := e_w.trans x; clear hd hs x
 refine et ?_
 refine wp_ret ?_
 refine Q0r Try.results75 hr e_w ?_
 exact Is.int s4 (Qjt hab)

def Qez : List Tmp := [3, 4, 6, 8, 9, 12, 13, 14, 15, 16, 17, 18, 19, 20, 21, 22, 23, 24, 25, 26, 27, 28, 29, 30, 31, 32, 33, 34]
def Qf0 : List Tmp := [3, 4, 8, 9, 18, 19, 20, 21, 22, 23, 24, 25, 26, 27, 28, 29, 30, 31, 32, 33]
def Qak : List Tmp := [9, 26, 27]
theorem Qol {x0 : Value} {w : World} {ls : List (List UInt8)} (h0 : (Bss ls) x0 w)  :
    Calls Try.prog 85 #[x0] w (Ret (Is (.int .u32 (norm (wsum ls.flatten)))) w) := by
 have hlen : ls.length ≤ 9223372036854775807 := Bss.len_le h0
 refine enter Try.func85 rfl Try.ntmps85 (k := 1) rfl (by decide) (fun a0 hr hargs => ?_)
 have s0 := sarg h0 (hargs 0 (by decide))
 clear hargs
 refine sq ?_
 refine Q04 36 [[]] [?b1_0] Q08 hr ?t1 ?o1 ?_
 case o1 =>
  apply oc0; intro A W hx hf
  exact Q05
  exact onn
 case t1 => exact inferInstance
 clear hr; intro a2 w2 x hr hd hs
 revert s0; refine kp1 hs rfl ?_; intro s0
 have e_w := x; clear hd hs x
 refine es ?_
 refine Q04 36 [[], []] [?b3_0, ?b3_1] Q08 hr ?t3 ?o3 ?_
 case o3 =>
  apply oc0; intro A W hx hf
  exact Q05
  apply oc0; intro A W hx hf
  exact Q05
  exact onn
 case t3 => exact inferInstance
 clear hr; intro a4 w4 x hr hd hs
 revert s0; refine kp1 hs rfl ?_; intro s0
 have s3 := fa ?b3_0 a4 w4 3 (hd 0 3 rfl)
 have s4 := fa ?b3_1 a4 w4 4 (hd 1 4 rfl)
 replace e_w := e_w.trans x; clear hd hs x
 refine es ?_
 refine sq ?_
 refine Q04 36 [[(0, none)], [(10, some 0)], []] [?b5_0, ?b5_1, ?b5_2] Q08 hr ?t5 ?o5 ?_
 case o5 =>
  apply oc0; intro A W hx hf
  exact Q01 (a0 := a4) (r0 hf)
  apply oc0; intro A W hx hf
  exact Qgy Qnq (p2 s0 e_w hx (q0 ?b5_0 A W 10 hf))
  apply oc0; intro A W hx hf
  exact Q7h
  exact onn
 case t5 => exact inferInstance
 clear hr; intro a6 w6 x hr hd hs
 have u10 := mv s0 (fa ?b5_0 a6 w6 10 (hd 0 10 rfl))
 revert s4; revert s3; refine kp2 hs rfl ?_; intro s3 s4
 clear s0
 have s10 := u10; clear u10
 have s11 := fa ?b5_1 a6 w6 11 (hd 1 11 rfl)
 have s12 := fa ?b5_2 a6 w6 12 (hd 2 12 rfl)
 replace e_w := e_w.trans x
 have e_w4 := x; clear hd hs x
 refine et ?_
 refine wp_block ?_
 refine Q14 (fun n A W => ∃ (i : Nat), n = ls.length - i ∧ Fr 36 A ∧ Same Qez a6 A ∧ Ext w W ∧ Ext w6 W ∧ (i ≤ ls.length) ∧ (Is (.int .u32 (norm (wsum (ls.take i).flatten)))) (A.eval (.tmp 3)) W ∧ (Is (.bool (decide ((ls.take i).flatten.length % 2 = 1)))) (A.eval (.tmp 4)) W ∧ (Is (.int .i64 (i : Int))) (A.eval (.tmp 12)) W) ?start7 ?_
 case start7 =>
  refine ⟨_, 0, rfl, hr, Same.rfl, e_w, (Ext.refl _), (by first | assumption | omega), ?_, ?_, ?_⟩
  · exact Is.int (Q00 e_w4 s3) (by simp [wsum, norm])
  · exact Is.bool (Q00 e_w4 s4) (by simp)
  · exact s12
 intro n7 a7 w7 hI
 clear e_w
 clear e_w4
 clear hr; obtain ⟨i, hn7, hr, hs, e_w, e_w6, hi, u3, u4, u12⟩ := hI
 revert s11; revert s10; refine kp2 hs rfl ?_; intro s10 s11
 clear s3 s4 s12
 have s3 := u3; clear u3
 have s4 := u4; clear u4
 have s12 := u12; clear u12
 have m7 := hs; clear hs
 refine sq ?_
 refine Q04 36 [[(12, none), (11, none)]] [?b8_0] Q08 hr ?t8 ?o8 ?_
 case o8 =>
  apply oc0; intro A W hx hf
  exact Q1b (o1 s12 hx (r0 hf)) (o2 s11 e_w6 hx (r1 hf))
  exact onn
 case t8 => exact inferInstance
 clear hr; intro a9 w9 x hr hd hs
 revert s12; revert s4; revert s3; revert s11; revert s10; refine kp5 hs rfl ?_; intro s10 s11 s3 s4 s12
 have s13 := fa ?b8_0 a9 w9 13 (hd 0 13 rfl)
 replace e_w := e_w.trans x
 replace e_w6 := e_w6.trans x
 have e_w7 := x
 replace m7 := m7.tr hs rfl; clear hd hs x
 refine es ?_
 refine wp_cond_split (show _ = _ from s13) (fun hlt => ?_) (fun hlt => ?_)
 ·
  have hlt : i < ls.length := by simp at hlt; omega
  refine wp_skip ?_
  refine es ?_
  refine wp_block ?_
  refine sq ?_
  refine Q04 36 [[(10, none), (12, none)], [(14, some 0)], [(15, some 1)]] [?b11_0, ?b11_1, ?b11_1] Q08 hr ?t11 ?o11 ?_
  case o11 =>
   apply oc0; intro A W hx hf
   exact Qd1 (_) Qnq Qmx (o2 s10 e_w hx (r0 hf)) (o2 s12 e_w7 hx (r1 hf)) (by first | omega | decide | (simp; done) | (simp; omega))
   apply oc0; intro A W hx hf
   exact Q1d tu22 rfl (q0 ?b11_0 A W 14 hf)
   apply oc0; intro A W hx hf
   exact Q03 (q0 ?b11_1 A W 15 hf)
   exact onn
  case t11 => exact inferInstance
  clear hr; intro a12 w12 x hr hd hs
  revert s12; revert s4; revert s3; revert s11; revert s10; refine kp5 hs rfl ?_; intro s10 s11 s3 s4 s12
  clear s13
  have s6 := fa ?b11_1 a12 w12 6 (hd 2 6 rfl)
  replace e_w := e_w.trans x
  replace e_w6 := e_w6.trans x
  replace e_w7 := e_w7.trans x
  replace m7 := m7.tr hs rfl; clear hd hs x
  refine es ?_
  refine Q04 36 [[(6, none)], [(16, some 0)], []] [?b13_0, ?b13_1, ?b13_2] Q08 hr ?t13 ?o13 ?_
  case o13 =>
   apply oc0; intro A W hx hf
   exact Q01 (a0 := a12) (r0 hf)
   apply oc0; intro A W hx hf
   exact Q0v tu22 (p1 s6 hx (q0 ?b13_0 A W 16 hf))
   apply oc0; intro A W hx hf
   exact Q7h
   exact onn
  case t13 => exact inferInstance
  clear hr; intro a14 w14 x hr hd hs
  have u16 := mv s6 (fa ?b13_0 a14 w14 16 (hd 0 16 rfl))
  revert s12; revert s4; revert s3; revert s11; revert s10; refine kp5 hs rfl ?_; intro s10 s11 s3 s4 s12
  clear s6
  have s16 := u16; clear u16
  have s17 := fa ?b13_1 a14 w14 17 (hd 1 17 rfl)
  have s18 := fa ?b13_2 a14 w14 18 (hd 2 18 rfl)
  replace e_w := e_w.trans x
  replace e_w6 := e_w6.trans x
  replace e_w7 := e_w7.trans x
  have e_w12 := x
  replace m7 := m7.tr hs rfl; clear hd hs x
  refine et ?_
  refine wp_block ?_
  refine Q14 (fun n A W => ∃ (j : Nat), n = ls[i].length - j ∧ Fr 36 A ∧ Same Qf0 a14 A ∧ Ext w W ∧ Ext w6 W ∧ Ext w7 W ∧ Ext w12 W ∧ Ext w14 W ∧ (j ≤ ls[i].length) ∧ (Is (.int .u32 (norm (wsum ((ls.take i).flatten ++ ls[i].take j))))) (A.eval (.tmp 3)) W ∧ (Is (.bool (decide (((ls.take i).flatten ++ ls[i].take j).length % 2 = 1)))) (A.eval (.tmp 4)) W ∧ (Is (.int .i64 (j : Int))) (A.eval (.tmp 18)) W) ?start15 ?_
  case start15 =>
   refine ⟨_, 0, rfl, hr, Same.rfl, e_w, e_w6, e_w7, e_w12, (Ext.refl _), (by first | assumption | omega), ?_, ?_, ?_⟩
   · exact Is.int (Q00 e_w7 s3) (by simp)
   · exact Is.bool (Q00 e_w7 s4) (by simp)
   · exact s18
  intro n15 a15 w15 hI
  clear e_w
  clear e_w6
  clear e_w7
  clear e_w12
  clear hr; obtain ⟨j, hn15, hr, hs, e_w, e_w6, e_w7, e_w12, e_w14, hj, u3, u4, u18⟩ := hI
  revert s17; revert s16; revert s12; revert s11; revert s10; refine kp5 hs rfl ?_; intro s10 s11 s12 s16 s17
  clear s3 s4 s18
  have s3 := u3; clear u3
  have s4 := u4; clear u4
  have s18 := u18; clear u18
  replace m7 := m7.tr hs rfl
  have hl := Bs.len_le s16
  have m15 := hs; clear hs
  refine sq ?_
  refine Q04 36 [[(18, none), (17, none)]] [?b16_0] Q08 hr ?t16 ?o16 ?_
  case o16 =>
   apply oc0; intro A W hx hf
   exact Q1b (o1 s18 hx (r0 hf)) (o2 s17 e_w14 hx (r1 hf))
   exact onn
  case t16 => exact inferInstance
  clear hr; intro a17 w17 x hr hd hs
  revert s3; revert s17; revert s16; revert s12; revert s11; revert s10; refine kp6 hs rfl ?_; intro s10 s11 s12 s16 s17 s3
  revert s18; revert s4; refine kp2 hs rfl ?_; intro s4 s18
  have s19 := fa ?b16_0 a17 w17 19 (hd 0 19 rfl)
  replace e_w := e_w.trans x
  replace e_w6 := e_w6.trans x
  replace e_w7 := e_w7.trans x
  replace e_w12 := e_w12.trans x
  replace e_w14 := e_w14.trans x
  have e_w15 := x
  replace m7 := m7.tr hs rfl
  replace m15 := m15.tr hs rfl; clear hd hs x
  refine es ?_
  refine wp_cond_split (show _ = _ from s19) (fun hc => ?_) (fun hc => ?_)
  ·
   have hc : j < ls[i].length := by simp at hc; omega
   refine wp_skip ?_
   refine es ?_
   refine wp_block ?_
   refine sq ?_
   refine Q04 36 [[(16, none), (18, none)], [(20, some 0)], [(21, some 1)]] [?b19_0, ?b19_1, ?b19_1] Q08 hr ?t19 ?o19 ?_
   case o19 =>
    apply oc0; intro A W hx hf
    exact Q12 (_) tu22 Q0s (o2 s16 e_w12 hx (r0 hf)) (o2 s18 e_w15 hx (r1 hf)) (by first | omega | decide | (simp; done) | (simp; omega))
    apply oc0; intro A W hx hf
    exact Q1d tu5 rfl (q0 ?b19_0 A W 20 hf)
    apply oc0; intro A W hx hf
    exact Q03 (q0 ?b19_1 A W 21 hf)
    exact onn
   case t19 => exact inferInstance
   clear hr; intro a20 w20 x hr hd hs
   revert s3; revert s17; revert s16; revert s12; revert s11; revert s10; refine kp6 hs rfl ?_; intro s10 s11 s12 s16 s17 s3
   revert s18; revert s4; refine kp2 hs rfl ?_; intro s4 s18
   clear s19
   have s8 := fa ?b19_1 a20 w20 8 (hd 2 8 rfl)
   replace e_w := e_w.trans x
   replace e_w6 := e_w6.trans x
   replace e_w7 := e_w7.trans x
   replace e_w12 := e_w12.trans x
   replace e_w14 := e_w14.trans x
   replace e_w15 := e_w15.trans x
   replace m7 := m7.tr hs rfl
   replace m15 := m15.tr hs rfl; clear hd hs x
   refine es ?_
   refine Q04 36 [[(8, none)], [(22, some 0)], [(23, some 1)]] [?b21_0, ?b21_1, ?b21_1] Q08 hr ?t21 ?o21 ?_
   case o21 =>
    apply oc0; intro A W hx hf
    exact Q01 (a0 := a20) (r0 hf)
    apply oc0; intro A W hx hf
    exact Q2k tu5 Qh7 (by decide) (p1 s8 hx (q0 ?b21_0 A W 22 hf))
    apply oc0; intro A W hx hf
    exact Q03 (q0 ?b21_1 A W 23 hf)
    exact onn
   case t21 => exact inferInstance
   clear hr; intro a22 w22 x hr hd hs
   revert s3; revert s17; revert s16; revert s12; revert s11; revert s10; refine kp6 hs rfl ?_; intro s10 s11 s12 s16 s17 s3
   revert s18; revert s4; refine kp2 hs rfl ?_; intro s4 s18
   clear s8
   have s9 := fa ?b21_1 a22 w22 9 (hd 2 9 rfl)
   replace e_w := e_w.trans x
   replace e_w6 := e_w6.trans x
   replace e_w7 := e_w7.trans x
   replace e_w12 := e_w12.trans x
   replace e_w14 := e_w14.trans x
   replace e_w15 := e_w15.trans x
   replace m7 := m7.tr hs rfl
   replace m15 := m15.tr hs rfl; clear hd hs x
   refine es ?_
   refine sq ?_
   refine Q04 36 [[(4, none)], [(24, some 0)]] [?b23_0, ?b23_1] Q08 hr ?t23 ?o23 ?_
   case o23 =>
    apply oc0; intro A W hx hf
    exact Q01 (a0 := a22) (r0 hf)
    apply oc0; intro A W hx hf
    exact Q43 (p2 s4 e_w15 hx (q0 ?b23_0 A W 24 hf))
    exact onn
   case t23 => exact inferInstance
   clear hr; intro a24 w24 x hr hd hs
   revert s3; revert s17; revert s16; revert s12; revert s11; revert s10; refine kp6 hs rfl ?_; intro s10 s11 s12 s16 s17 s3
   revert s9; revert s18; revert s4; refine kp3 hs rfl ?_; intro s4 s18 s9
   have s25 := fa ?b23_1 a24 w24 25 (hd 1 25 rfl)
   replace e_w := e_w.trans x
   replace e_w6 := e_w6.trans x
   replace e_w7 := e_w7.trans x
   replace e_w12 := e_w12.trans x
   replace e_w14 := e_w14.trans x
   replace e_w15 := e_w15.trans x
   have e_w22 := x
   replace m7 := m7.tr hs rfl
   replace m15 := m15.tr hs rfl; clear hd hs x
   refine et ?_
   refine Q33 (fun A W => Fr 36 A ∧ Same Qak a24 A ∧ Ext w W ∧ Ext w6 W ∧ Ext w7 W ∧ Ext w12 W ∧ Ext w14 W ∧ Ext w15 W ∧ (Is (.int .u32 (if ((ls.take i).flatten ++ ls[i].take j).length % 2 = 1 then (ls[i][j].toNat : Int) else 256 * (ls[i][j].toNat : Int)))) (A.eval (.tmp 9)) W) ?cut25 ?_
   case cut25 =>
    have m25 : Same Qak a24 a24 := Same.rfl
    refine wp_cond_split (show _ = _ from s25) (fun ho => ?_) (fun ho => ?_)
    ·
     simp only [Bool.not_eq_true', decide_eq_false_iff_not] at ho
     refine Q04 36 [[(9, none)], [(26, some 0)], [(27, some 1)]] [?b27_0, ?b27_1, ?b27_1] Q08 hr ?t27 ?o27 ?_
     case o27 =>
      apply oc0; intro A W hx hf
      exact Q01 (a0 := a24) (r0 hf)
      apply oc0; intro A W hx hf
      exact Qfp 8 (by decide) (p2 s9 e_w22 hx (q0 ?b27_0 A W 26 hf)) (ec A (.int .u64 8))
      apply oc0; intro A W hx hf
      exact Q03 (q0 ?b27_1 A W 27 hf)
      exact onn
     case t27 => exact inferInstance
     clear hr; intro a28 w28 x hr hd hs
     revert s3; revert s17; revert s16; revert s12; revert s11; revert s10; refine kp6 hs rfl ?_; intro s10 s11 s12 s16 s17 s3
     revert s18; revert s4; refine kp2 hs rfl ?_; intro s4 s18
     clear s9 s25
     have s9 := fa ?b27_1 a28 w28 9 (hd 2 9 rfl)
     replace e_w := e_w.trans x
     replace e_w6 := e_w6.trans x
     replace e_w7 := e_w7.trans x
     replace e_w12 := e_w12.trans x
     replace e_w14 := e_w14.trans x
     replace e_w15 := e_w15.trans x
     clear e_w22
     replace m7 := m7.tr hs rfl
     replace m15 := m15.tr hs rfl
     replace m25 := m25.tr hs rfl; clear hd hs x
     refine et ?_
     refine ⟨hr, m25, e_w, e_w6, e_w7, e_w12, e_w14, e_w15, ?_⟩
     · have hb := Q79 (wsum ((ls.take i).flatten ++ ls[i].take j)); have hz := Q5u ls[i][j]; exact Is.int s9 (by (first | rw [if_pos ho] | rw [if_neg ho]); try (rw [show ((2 : Int) ^ 8) = 256 from rfl, IntWalk.u32_in _ (by omega)]; omega))
    simp only [Bool.not_eq_false', decide_eq_true_eq] at ho
    refine wp_skip ?_
    refine et ?_
    refine ⟨hr, m25, e_w, e_w6, e_w7, e_w12, e_w14, e_w15, ?_⟩
    · have hb := Q79 (wsum ((ls.take i).flatten ++ ls[i].take j)); have hz := Q5u ls[i][j]; exact Is.int (Q00 e_w22 s9) (by (first | rw [if_pos ho] | rw [if_neg ho]); try (rw [show ((2 : Int) ^ 8) = 256 from rfl, IntWalk.u32_in _ (by omega)]; omega))
   intro a25 w25 hI
   clear e_w
   clear e_w6
   clear e_w7
   clear e_w12
   clear e_w14
   clear e_w15
   clear e_w22
   clear hr; obtain ⟨hr, hs, e_w, e_w6, e_w7, e_w12, e_w14, e_w15, u9⟩ := hI
   revert s3; revert s17; revert s16; revert s12; revert s11; revert s10; refine kp6 hs rfl ?_; intro s10 s11 s12 s16 s17 s3
   revert s18; revert s4; refine kp2 hs rfl ?_; intro s4 s18
   clear s9 s25
   have s9 := u9; clear u9
   replace m7 := m7.tr hs rfl
   replace m15 := m15.tr hs rfl
   clear hs
   refine sq ?_
   refine Q04 36 [[(3, none)], [(9, none)], [(28, some 0), (29, some 1)], [(30, some 2)]] [?b29_0, ?b29_1, ?b29_2, ?b29_2] Q08 hr ?t29 ?o29 ?_
   case o29 =>
    apply oc0; intro A W hx hf
    exact Q01 (a0 := a25) (r0 hf)
    apply oc0; intro A W hx hf
    exact Q01 (a0 := a25) (r0 hf)
    apply oc0; intro A W hx hf
    exact Q0p Qim (Qk5 (p2 s3 e_w15 hx (q0 ?b29_0 A W 28 hf)) (p1 s9 hx (q1 ?b29_1 A W 29 hf)) (by have hb := Q79 (wsum ((ls.take i).flatten ++ ls[i].take j)); have hz := Q5u ls[i][j]; refine ⟨hb, ?_⟩; split <;> omega))
    apply oc0; intro A W hx hf
    exact Q03 (q0 ?b29_2 A W 30 hf)
    exact onn
   case t29 => exact inferInstance
   clear hr; intro a30 w30 x hr hd hs
   revert s4; revert s17; revert s16; revert s12; revert s11; revert s10; refine kp6 hs rfl ?_; intro s10 s11 s12 s16 s17 s4
   revert s18; refine kp1 hs rfl ?_; intro s18
   clear s3 s9
   have s3 := fa ?b29_2 a30 w30 3 (hd 3 3 rfl)
   replace e_w := e_w.trans x
   replace e_w6 := e_w6.trans x
   replace e_w7 := e_w7.trans x
   replace e_w12 := e_w12.trans x
   replace e_w14 := e_w14.trans x
   replace e_w15 := e_w15.trans x
   replace m7 := m7.tr hs rfl
   replace m15 := m15.tr hs rfl; clear hd hs x
   refine et ?_
   refine Q04 36 [[(4, none)], [(31, some 0)], [(32, some 1)]] [?b31_0, ?b31_1, ?b31_1] Q08 hr ?t31 ?o31 ?_
   case o31 =>
    apply oc0; intro A W hx hf
    exact Q01 (a0 := a30) (r0 hf)
    apply oc0; intro A W hx hf
    exact Q43 (p2 s4 e_w15 hx (q0 ?b31_0 A W 31 hf))
    apply oc0; intro A W hx hf
    exact Q03 (q0 ?b31_1 A W 32 hf)
    exact onn
   case t31 => exact inferInstance
   clear hr; intro a32 w32 x hr hd hs
   revert s18; revert s17; revert s16; revert s12; revert s11; revert s10; refine kp6 hs rfl ?_; intro s10 s11 s12 s16 s17 s18
   revert s3; refine kp1 hs rfl ?_; intro s3
   clear s4
   have s4 := fa ?b31_1 a32 w32 4 (hd 2 4 rfl)
   replace e_w := e_w.trans x
   replace e_w6 := e_w6.trans x
   replace e_w7 := e_w7.trans x
   replace e_w12 := e_w12.trans x
   replace e_w14 := e_w14.trans x
   replace e_w15 := e_w15.trans x
   have e_w30 := x
   replace m7 := m7.tr hs rfl
   replace m15 := m15.tr hs rfl; clear hd hs x
   refine Q0x ?_
   refine et ?_
   refine Q04 36 [[(18, none)], [(33, some 0)]] [?b33_0, ?b33_0] Q08 hr ?t33 ?o33 ?_
   case o33 =>
    apply oc0; intro A W hx hf
    exact Q0o (o2 s18 e_w15 hx (r0 hf)) (ec A (.int .i64 1)) (by omega)
    apply oc0; intro A W hx hf
    exact Q0h (q0 ?b33_0 A W 33 hf)
    exact onn
   case t33 => exact inferInstance
   clear hr; intro a34 w34 x hr hd hs
   revert s3; revert s17; revert s16; revert s12; revert s11; revert s10; refine kp6 hs rfl ?_; intro s10 s11 s12 s16 s17 s3
   revert s4; refine kp1 hs rfl ?_; intro s4
   clear s18
   have s18 := fa ?b33_0 a34 w34 18 (hd 1 18 rfl)
   replace e_w := e_w.trans x
   replace e_w6 := e_w6.trans x
   replace e_w7 := e_w7.trans x
   replace e_w12 := e_w12.trans x
   replace e_w14 := e_w14.trans x
   clear e_w15
   replace e_w30 := e_w30.trans x
   have e_w32 := x
   replace m7 := m7.tr hs rfl
   replace m15 := m15.tr hs rfl; clear hd hs x
   refine et ?_
   refine ⟨(fun (j : Nat) => ls[i].length - j) (j + 1), ?_, ?_⟩
   · (try dsimp only); omega
   refine ⟨j + 1, rfl, hr, m15, e_w, e_w6, e_w7, e_w12, e_w14, (by first | assumption | omega), ?_, ?_, ?_⟩
   · exact Is.int (Q00 e_w30 s3) (Qlm hc _ rfl)
   · exact Is.bool (Q00 e_w32 s4) (Qln hc)
   · first | exact s18 | exact Is.int s18 (by first | omega | simp) | exact Is.bool s18 (by first | omega | simp)
  have hc : j = ls[i].length := by simp at hc; omega
  refine wp_exit ?_
  refine Q0g ?_
  refine Q0g ?_
  refine Q1a ?_
  refine Q0x ?_
  refine et ?_
  refine Q04 36 [[(12, none)], [(34, some 0)]] [?b35_0, ?b35_0] Q08 hr ?t35 ?o35 ?_
  case o35 =>
   apply oc0; intro A W hx hf
   exact Q0o (o2 s12 e_w7 hx (r0 hf)) (ec A (.int .i64 1)) (by omega)
   apply oc0; intro A W hx hf
   exact Q0h (q0 ?b35_0 A W 34 hf)
   exact onn
  case t35 => exact inferInstance
  clear hr; intro a36 w36 x hr hd hs
  revert s4; revert s3; revert s11; revert s10; refine kp4 hs rfl ?_; intro s10 s11 s3 s4
  clear s12 s16 s17 s18 s19
  have s12 := fa ?b35_0 a36 w36 12 (hd 1 12 rfl)
  replace e_w := e_w.trans x
  replace e_w6 := e_w6.trans x
  clear e_w7
  clear e_w12
  clear e_w14
  replace e_w15 := e_w15.trans x
  replace m7 := m7.tr hs rfl; clear hd hs x
  refine et ?_
  refine ⟨(fun (i : Nat) => ls.length - i) (i + 1), ?_, ?_⟩
  · (try dsimp only); omega
  refine ⟨i + 1, rfl, hr, m7, e_w, e_w6, (by first | assumption | omega), ?_, ?_, ?_⟩
  · exact Is.int (Q00 e_w15 s3) (by rw [Qgd hlt, hc, List.take_length])
  · exact Is.bool (Q00 e_w15 s4) (by rw [Qgd hlt, hc, List.take_length])
  · first | exact s12 | exact Is.int s12 (by first | omega | simp) | exact Is.bool s12 (by first | omega | simp)
 have hlt : i = ls.length := by simp at hlt; omega
 refine wp_exit ?_
 refine Q0g ?_
 refine Q0g ?_
 refine Q1a ?_
 refine es ?_
 refine Q04 36 [[(3, none)], [(35, some 0)]] [?b37_0, ?b37_0] Q08 hr ?t37 ?o37 ?_
 case o37 =>
  apply oc0; intro A W hx hf
  exact Q01 (a0 := a9) (r0 hf)
  apply oc0; intro A W hx hf
  exact Q03 (q0 ?b37_0 A W 35 hf)
  exact onn
 case t37 => exact inferInstance
 clear hr; intro a38 w38 x hr hd hs
 have u2 := mv s3 (fa ?b37_0 a38 w38 2 (hd 1 2 rfl))
 clear s10 s11 s3 s4 s12 s13
 have s2 := u2; clear u2
 replace e_w := e_w.trans x
 clear e_w6
 replace e_w7 := e_w7.trans x; clear hd hs x
 refine et ?_
 refine wp_ret ?_
 refine Q0r Try.results85 hr e_w ?_
 exact Is.int (Q00 e_w7 s2) (by rw [hlt, List.take_length])

theorem Qs6 {x0 : Value} {w : World} {ls : List (List UInt8)} (h0 : (Bss ls) x0 w)  :
    Calls Try.prog 84 #[x0] w (Ret (Is (.int .u16 (ck ls.flatten))) w) := by
 have hb := Q79 (wsum ls.flatten)
 refine enter Try.func84 rfl Try.ntmps84 (k := 1) rfl (by decide) (fun a0 hr hargs => ?_)
 have s0 := sarg h0 (hargs 0 (by decide))
 clear hargs
 refine sq ?_
 refine Q04 7 [[]] [?b1_0] Q08 hr ?t1 ?o1 ?_
 case o1 =>
  apply oc0; intro A W hx hf
  exact Q05
  exact onn
 case t1 => exact inferInstance
 clear hr; intro a2 w2 x hr hd hs
 revert s0; refine kp1 hs rfl ?_; intro s0
 have e_w := x; clear hd hs x
 refine es ?_
 refine Q04 7 [[(0, none)], [(3, some 0)], [(4, some 1)], [(5, some 2)], [(6, some 3)]] [?b3_0, ?b3_1, ?b3_2, ?b3_3, ?b3_3] Q08 hr ?t3 ?o3 ?_
 case o3 =>
  apply oc0; intro A W hx hf
  exact Q01 (a0 := a2) (r0 hf)
  apply oc0; intro A W hx hf
  exact Q18 Qqe (Qol (p2 s0 e_w hx (q0 ?b3_0 A W 3 hf)))
  apply oc0; intro A W hx hf
  exact Q2d Qh7 tu86 (by exact IntWalk.u16_in _ (by omega)) (q0 ?b3_1 A W 4 hf)
  apply oc0; intro A W hx hf
  exact Q98 (q0 ?b3_2 A W 5 hf)
  apply oc0; intro A W hx hf
  exact Q03 (q0 ?b3_3 A W 6 hf)
  exact onn
 case t3 => exact inferInstance
 clear hr; intro a4 w4 x hr hd hs
 clear s0
 have s2 := fa ?b3_3 a4 w4 2 (hd 4 2 rfl)
 replace e_w := e_w.trans x; clear hd hs x
 refine et ?_
 refine wp_ret ?_
 refine Q0r Try.results84 hr e_w ?_
 exact Is.int s2 (Qcc hb)

theorem Qoj {x0 : Value} {w : World} {ls : List (List UInt8)} (h0 : (Bss ls) x0 w)  :
    Calls Try.prog 78 #[x0] w (Ret (Is (.bool (ck ls.flatten == 0))) w) := by
 refine enter Try.func78 rfl Try.ntmps78 (k := 1) rfl (by decide) (fun a0 hr hargs => ?_)
 have s0 := sarg h0 (hargs 0 (by decide))
 clear hargs
 refine sq ?_
 refine Q04 6 [[]] [?b1_0] Q08 hr ?t1 ?o1 ?_
 case o1 =>
  apply oc0; intro A W hx hf
  exact Q05
  exact onn
 case t1 => exact inferInstance
 clear hr; intro a2 w2 x hr hd hs
 revert s0; refine kp1 hs rfl ?_; intro s0
 have e_w := x; clear hd hs x
 refine es ?_
 refine Q04 6 [[(0, none)], [(3, some 0)], [(4, some 1)], [(5, some 2)]] [?b3_0, ?b3_1, ?b3_2, ?b3_2] Q08 hr ?t3 ?o3 ?_
 case o3 =>
  apply oc0; intro A W hx hf
  exact Q01 (a0 := a2) (r0 hf)
  apply oc0; intro A W hx hf
  exact Q18 Qqd (Qs6 (p2 s0 e_w hx (q0 ?b3_0 A W 3 hf)))
  apply oc0; intro A W hx hf
  exact Q1i (q0 ?b3_1 A W 4 hf) (ec A (.int .u16 0))
  apply oc0; intro A W hx hf
  exact Q03 (q0 ?b3_2 A W 5 hf)
  exact onn
 case t3 => exact inferInstance
 clear hr; intro a4 w4 x hr hd hs
 clear s0
 have s2 := fa ?b3_2 a4 w4 2 (hd 3 2 rfl)
 replace e_w := e_w.trans x; clear hd hs x
 refine et ?_
 refine wp_ret ?_
 refine Q0r Try.results78 hr e_w ?_
 exact s2

theorem Qm1 {x0 x1 x2 : Value} {w : World} {c m n : Int} (h0 : (Is (.int .u16 c)) x0 w) (h1 : (Is (.int .u16 m)) x1 w) (h2 : (Is (.int .u16 n)) x2 w) (hc : 0 ≤ c ∧ c ≤ 65535) (hm : 0 ≤ m ∧ m ≤ 65535) (hn : 0 ≤ n ∧ n ≤ 65535) :
    Calls Try.prog 65 #[x0, x1, x2] w (Ret (Is (.int .u16 (chg c m n))) w) := by
 have g1 := Qca (a := 65535 - c) (b := 65535 - m) (by omega) (by omega)
 have g2 := Qca g1 hn
 have gc := Qcc hc
 have gm := Qcc hm
 refine enter Try.func65 rfl Try.ntmps65 (k := 3) rfl (by decide) (fun a0 hr hargs => ?_)
 have s0 := sarg h0 (hargs 0 (by decide))
 have s1 := sarg h1 (hargs 1 (by decide))
 have s2 := sarg h2 (hargs 2 (by decide))
 clear hargs
 refine sq ?_
 refine Q04 19 [[]] [?b1_0] Q08 hr ?t1 ?o1 ?_
 case o1 =>
  apply oc0; intro A W hx hf
  exact Q05
  exact onn
 case t1 => exact inferInstance
 clear hr; intro a2 w2 x hr hd hs
 revert s2; revert s1; revert s0; refine kp3 hs rfl ?_; intro s0 s1 s2
 have e_w := x; clear hd hs x
 refine es ?_
 refine Q04 19 [[(0, none)], [(7, some 0)], [(8, some 1)], [(1, none)], [(10, some 3)], [(11, some 4)], [(9, some 2), (12, some 5)], [(2, none)], [(14, some 7)], [(13, some 6), (15, some 8)], [(16, some 9)], [(17, some 10)], [(18, some 11)]] [?b3_0, ?b3_1, ?b3_2, ?b3_3, ?b3_4, ?b3_5, ?b3_6, ?b3_7, ?b3_8, ?b3_9, ?b3_10, ?b3_11, ?b3_11] Q08 hr ?t3 ?o3 ?_
 case o3 =>
  apply oc0; intro A W hx hf
  exact Q01 (a0 := a2) (r0 hf)
  apply oc0; intro A W hx hf
  exact Q98 (p2 s0 e_w hx (q0 ?b3_0 A W 7 hf))
  apply oc0; intro A W hx hf
  exact Q2d tu86 Qh7 (by rw [gc]; exact IntWalk.u32_in _ (by omega)) (q0 ?b3_1 A W 8 hf)
  apply oc0; intro A W hx hf
  exact Q01 (a0 := a2) (r0 hf)
  apply oc0; intro A W hx hf
  exact Q98 (p2 s1 e_w hx (q0 ?b3_3 A W 10 hf))
  apply oc0; intro A W hx hf
  exact Q2d tu86 Qh7 (by rw [gm]; exact IntWalk.u32_in _ (by omega)) (q0 ?b3_4 A W 11 hf)
  apply oc0; intro A W hx hf
  exact Q0p Qim (Qk5 (Is.int (q0 ?b3_2 A W 9 hf) gc) (Is.int (q1 ?b3_5 A W 12 hf) gm) (by omega))
  apply oc0; intro A W hx hf
  exact Q01 (a0 := a2) (r0 hf)
  apply oc0; intro A W hx hf
  exact Q2d tu86 Qh7 (by exact IntWalk.u32_in _ (by omega)) (p2 s2 e_w hx (q0 ?b3_7 A W 14 hf))
  apply oc0; intro A W hx hf
  exact Q0p Qim (Qk5 (q0 ?b3_6 A W 13 hf) (q1 ?b3_8 A W 15 hf) (by omega))
  apply oc0; intro A W hx hf
  exact Q2d Qh7 tu86 (by exact IntWalk.u16_in _ (by omega)) (q0 ?b3_9 A W 16 hf)
  apply oc0; intro A W hx hf
  exact Q98 (q0 ?b3_10 A W 17 hf)
  apply oc0; intro A W hx hf
  exact Q03 (q0 ?b3_11 A W 18 hf)
  exact onn
 case t3 => exact inferInstance
 clear hr; intro a4 w4 x hr hd hs
 clear s0 s1 s2
 have s6 := fa ?b3_11 a4 w4 6 (hd 12 6 rfl)
 replace e_w := e_w.trans x; clear hd hs x
 refine et ?_
 refine wp_ret ?_
 refine Q0r Try.results65 hr e_w ?_
 exact Is.int s6 (Qcc g2)

theorem c_at {x0 x1 : Value} {w : World} {l : List UInt8} {i : Nat} (h0 : (Bs l) x0 w) (h1 : (Is (.int .i64 (i : Int))) x1 w)  :
    Calls Try.prog 66 #[x0, x1] w (Ret (Is (.int .u16 (Q09 l i))) w) := by
 refine enter Try.func66 rfl Try.ntmps66 (k := 2) rfl (by decide) (fun a0 hr hargs => ?_)
 have s0 := sarg h0 (hargs 0 (by decide))
 have s1 := sarg h1 (hargs 1 (by decide))
 clear hargs
 refine sq ?_
 refine Q04 14 [[]] [?b1_0] Q08 hr ?t1 ?o1 ?_
 case o1 =>
  apply oc0; intro A W hx hf
  exact Q05
  exact onn
 case t1 => exact inferInstance
 clear hr; intro a2 w2 x hr hd hs
 revert s1; revert s0; refine kp2 hs rfl ?_; intro s0 s1
 have e_w := x; clear hd hs x
 refine es ?_
 refine sq ?_
 refine Q04 14 [[(1, none)], [(0, none)], [(6, some 1)], [(5, some 0), (7, some 2)]] [?b3_0, ?b3_1, ?b3_2, ?b3_3] Q08 hr ?t3 ?o3 ?_
 case o3 =>
  apply oc0; intro A W hx hf
  exact Q01 (a0 := a2) (r0 hf)
  apply oc0; intro A W hx hf
  exact Q01 (a0 := a2) (r0 hf)
  apply oc0; intro A W hx hf
  exact Q0v tu22 (p2 s0 e_w hx (q0 ?b3_1 A W 6 hf))
  apply oc0; intro A W hx hf
  exact Qmg (p2 s1 e_w hx (q0 ?b3_0 A W 5 hf)) (q1 ?b3_2 A W 7 hf)
  exact onn
 case t3 => exact inferInstance
 clear hr; intro a4 w4 x hr hd hs
 revert s1; revert s0; refine kp2 hs rfl ?_; intro s0 s1
 have s8 := fa ?b3_3 a4 w4 8 (hd 3 8 rfl)
 replace e_w := e_w.trans x; clear hd hs x
 refine et ?_
 refine wp_cond_split (show _ = _ from s8) (fun hge => ?_) (fun hge => ?_)
 ·
  have hge : l.length ≤ i := by simp at hge; omega
  refine sq ?_
  refine Q04 14 [[]] [?b6_0] Q08 hr ?t6 ?o6 ?_
  case o6 =>
   apply oc0; intro A W hx hf
   exact Q05
   exact onn
  case t6 => exact inferInstance
  clear hr; intro a7 w7 x hr hd hs
  clear s0 s1 s8
  have s4 := fa ?b6_0 a7 w7 4 (hd 0 4 rfl)
  replace e_w := e_w.trans x; clear hd hs x
  refine et ?_
  refine wp_ret ?_
  refine Q0e ?_
  refine Q0r Try.results66 hr e_w ?_
  first | exact Is.int s4 (Q6v hge).symm | exact Is.int s4 (Q10 hge).symm
 have hge : i < l.length := by simp at hge; omega
 refine wp_skip ?_
 refine es ?_
 refine Q04 14 [[(0, none)], [(1, none)], [(9, some 0), (10, some 1)], [(11, some 2)], [(12, some 3)], [(13, some 4)]] [?b8_0, ?b8_1, ?b8_2, ?b8_3, ?b8_4, ?b8_4] Q08 hr ?t8 ?o8 ?_
 case o8 =>
  apply oc0; intro A W hx hf
  exact Q01 (a0 := a4) (r0 hf)
  apply oc0; intro A W hx hf
  exact Q01 (a0 := a4) (r0 hf)
  apply oc0; intro A W hx hf
  exact Q12 (_) tu22 Q0s (p2 s0 e_w hx (q0 ?b8_0 A W 9 hf)) (p2 s1 e_w hx (q1 ?b8_1 A W 10 hf)) (by first | omega | decide | (simp; done) | (simp; omega))
  apply oc0; intro A W hx hf
  exact Q1d tu5 rfl (q0 ?b8_2 A W 11 hf)
  apply oc0; intro A W hx hf
  exact Q2k tu5 tu86 (by decide) (q0 ?b8_3 A W 12 hf)
  apply oc0; intro A W hx hf
  exact Q03 (q0 ?b8_4 A W 13 hf)
  exact onn
 case t8 => exact inferInstance
 clear hr; intro a9 w9 x hr hd hs
 clear s0 s1 s8
 have s4 := fa ?b8_4 a9 w9 4 (hd 5 4 rfl)
 replace e_w := e_w.trans x; clear hd hs x
 refine et ?_
 refine wp_ret ?_
 refine Q0r Try.results66 hr e_w ?_
 first | exact Is.int s4 (Q6v hge).symm | exact Is.int s4 (Q10 hge).symm

def Qci : List Tmp := [0, 7, 8, 9, 10, 11, 12, 13, 14, 15, 16, 17, 18, 19, 20, 21, 22, 23, 24, 25, 26, 27, 28, 29, 30, 31, 32, 33, 34, 35, 36]
theorem Qag {x0 x1 x2 : Value} {w : World} {c : Int} {f t : List UInt8} (h0 : (Is (.int .u16 c)) x0 w) (h1 : (Bs f) x1 w) (h2 : (Bs t) x2 w) (hc : 0 ≤ c ∧ c ≤ 65535) (hf : f.length ≤ 1000000000000) (ht : t.length ≤ 1000000000000) :
    Calls Try.prog 43 #[x0, x1, x2] w (Ret (Is (.int .u16 (Q3g c f t))) w) := by
 refine enter Try.func43 rfl Try.ntmps43 (k := 3) rfl (by decide) (fun a0 hr hargs => ?_)
 have s0 := sarg h0 (hargs 0 (by decide))
 have s1 := sarg h1 (hargs 1 (by decide))
 have s2 := sarg h2 (hargs 2 (by decide))
 clear hargs
 refine sq ?_
 refine Q04 38 [[]] [?b1_0] Q08 hr ?t1 ?o1 ?_
 case o1 =>
  apply oc0; intro A W hx hf
  exact Q05
  exact onn
 case t1 => exact inferInstance
 clear hr; intro a2 w2 x hr hd hs
 revert s2; revert s1; revert s0; refine kp3 hs rfl ?_; intro s0 s1 s2
 have e_w := x; clear hd hs x
 refine es ?_
 refine sq ?_
 refine Q04 38 [[]] [?b3_0] Q08 hr ?t3 ?o3 ?_
 case o3 =>
  apply oc0; intro A W hx hf
  exact Q05
  exact onn
 case t3 => exact inferInstance
 clear hr; intro a4 w4 x hr hd hs
 revert s2; revert s1; revert s0; refine kp3 hs rfl ?_; intro s0 s1 s2
 have s7 := fa ?b3_0 a4 w4 7 (hd 0 7 rfl)
 replace e_w := e_w.trans x; clear hd hs x
 refine et ?_
 refine wp_block ?_
 refine Q14 (fun n A W => ∃ (k : Nat), n = max f.length t.length + 1 - 2 * k ∧ Fr 38 A ∧ Same Qci a4 A ∧ Ext w W ∧ (2 * k ≤ max f.length t.length + 1) ∧ (Is (.int .u16 (chgd c f t k))) (A.eval (.tmp 0)) W ∧ (Is (.int .i64 ((2 * k : Nat) : Int))) (A.eval (.tmp 7)) W) ?start5 ?_
 case start5 =>
  refine ⟨_, 0, rfl, hr, Same.rfl, e_w, (by first | assumption | omega), ?_, ?_⟩
  · exact (Q00 e_w s0)
  · exact s7
 intro n5 a5 w5 hI
 clear e_w
 clear hr; obtain ⟨k, hn5, hr, hs, e_w, hk, u0, u7⟩ := hI
 revert s2; revert s1; refine kp2 hs rfl ?_; intro s1 s2
 clear s0 s7
 have s0 := u0; clear u0
 have s7 := u7; clear u7
 have m5 := hs; clear hs
 refine sq ?_
 refine sq ?_
 refine Q04 38 [[(7, none)], [(1, none)], [(9, some 1)], [(2, none)], [(11, some 3)], [(10, some 2), (12, some 4)], [(8, some 0), (13, some 5)]] [?b6_0, ?b6_1, ?b6_2, ?b6_3, ?b6_4, ?b6_5, ?b6_6] Q08 hr ?t6 ?o6 ?_
 case o6 =>
  apply oc0; intro A W hx hf
  exact Q01 (a0 := a5) (r0 hf)
  apply oc0; intro A W hx hf
  exact Q01 (a0 := a5) (r0 hf)
  apply oc0; intro A W hx hf
  exact Q0v tu22 (p2 s1 e_w hx (q0 ?b6_1 A W 9 hf))
  apply oc0; intro A W hx hf
  exact Q01 (a0 := a5) (r0 hf)
  apply oc0; intro A W hx hf
  exact Q0v tu22 (p2 s2 e_w hx (q0 ?b6_3 A W 11 hf))
  apply oc0; intro A W hx hf
  exact Qbl (q0 ?b6_2 A W 10 hf) (q1 ?b6_4 A W 12 hf)
  apply oc0; intro A W hx hf
  exact Q1b (p1 s7 hx (q0 ?b6_0 A W 8 hf)) (q1 ?b6_5 A W 13 hf)
  exact onn
 case t6 => exact inferInstance
 clear hr; intro a7 w7 x hr hd hs
 revert s7; revert s0; revert s2; revert s1; refine kp4 hs rfl ?_; intro s1 s2 s0 s7
 have s14 := fa ?b6_6 a7 w7 14 (hd 6 14 rfl)
 replace e_w := e_w.trans x
 have e_w5 := x
 replace m5 := m5.tr hs rfl; clear hd hs x
 refine et ?_
 refine wp_cond_split (show _ = _ from s14) (fun hlt => ?_) (fun hlt => ?_)
 ·
  have hlt : 2 * k < max f.length t.length := Qr5 hlt
  refine wp_skip ?_
  refine es ?_
  refine wp_block ?_
  have hcb := Q6i hc f t k
  have w1 := Q0w f (2 * k)
  have w2 := Q0w t (2 * k)
  refine Q04 38 [[(0, none)], [(1, none)], [(7, none)], [(18, some 1), (19, some 2)], [(20, some 3)], [(1, none)], [(7, none)], [(23, some 6)], [(22, some 5), (24, some 7)], [(21, some 4), (25, some 8)], [(2, none)], [(7, none)], [(27, some 10), (28, some 11)], [(29, some 12)], [(2, none)], [(7, none)], [(32, some 15)], [(31, some 14), (33, some 16)], [(30, some 13), (34, some 17)], [(17, some 0), (26, some 9), (35, some 18)], [(36, some 19)]] [?b9_0, ?b9_1, ?b9_2, ?b9_3, ?b9_4, ?b9_5, ?b9_6, ?b9_7, ?b9_8, ?b9_9, ?b9_10, ?b9_11, ?b9_12, ?b9_13, ?b9_14, ?b9_15, ?b9_16, ?b9_17, ?b9_18, ?b9_19, ?b9_19] Q08 hr ?t9 ?o9 ?_
  case o9 =>
   apply oc0; intro A W hx hf
   exact Q01 (a0 := a7) (r0 hf)
   apply oc0; intro A W hx hf
   exact Q01 (a0 := a7) (r0 hf)
   apply oc0; intro A W hx hf
   exact Q01 (a0 := a7) (r0 hf)
   apply oc0; intro A W hx hf
   exact Q0p Qg1 (c_at (p2 s1 e_w hx (q0 ?b9_1 A W 18 hf)) (p2 s7 e_w5 hx (q1 ?b9_2 A W 19 hf)))
   apply oc0; intro A W hx hf
   exact Qfp 8 (by decide) (q0 ?b9_3 A W 20 hf) (ec A (.int .u64 8))
   apply oc0; intro A W hx hf
   exact Q01 (a0 := a7) (r0 hf)
   apply oc0; intro A W hx hf
   exact Q01 (a0 := a7) (r0 hf)
   apply oc0; intro A W hx hf
   exact Q0o (p2 s7 e_w5 hx (q0 ?b9_6 A W 23 hf)) (ec A (.int .i64 1)) (by omega)
   apply oc0; intro A W hx hf
   exact Q0p Qg1 (c_at (p2 s1 e_w hx (q0 ?b9_5 A W 22 hf)) (Is.int (q1 ?b9_7 A W 24 hf) (show _ = ((2 * k + 1 : Nat) : Int) from by omega)))
   apply oc0; intro A W hx hf
   exact Qi0 (q0 ?b9_4 A W 21 hf) (q1 ?b9_8 A W 25 hf)
   apply oc0; intro A W hx hf
   exact Q01 (a0 := a7) (r0 hf)
   apply oc0; intro A W hx hf
   exact Q01 (a0 := a7) (r0 hf)
   apply oc0; intro A W hx hf
   exact Q0p Qg1 (c_at (p2 s2 e_w hx (q0 ?b9_10 A W 27 hf)) (p2 s7 e_w5 hx (q1 ?b9_11 A W 28 hf)))
   apply oc0; intro A W hx hf
   exact Qfp 8 (by decide) (q0 ?b9_12 A W 29 hf) (ec A (.int .u64 8))
   apply oc0; intro A W hx hf
   exact Q01 (a0 := a7) (r0 hf)
   apply oc0; intro A W hx hf
   exact Q01 (a0 := a7) (r0 hf)
   apply oc0; intro A W hx hf
   exact Q0o (p2 s7 e_w5 hx (q0 ?b9_15 A W 32 hf)) (ec A (.int .i64 1)) (by omega)
   apply oc0; intro A W hx hf
   exact Q0p Qg1 (c_at (p2 s2 e_w hx (q0 ?b9_14 A W 31 hf)) (Is.int (q1 ?b9_16 A W 33 hf) (show _ = ((2 * k + 1 : Nat) : Int) from by omega)))
   apply oc0; intro A W hx hf
   exact Qi0 (q0 ?b9_13 A W 30 hf) (q1 ?b9_17 A W 34 hf)
   apply oc0; intro A W hx hf
   exact Q2y Qq5 (Qm1 (p2 s0 e_w5 hx (q0 ?b9_0 A W 17 hf)) (Is.int (q1 ?b9_9 A W 26 hf) Qdv) (Is.int (q2 ?b9_18 A W 35 hf) Qdv) (by exact hcb) (by exact w1) (by exact w2))
   apply oc0; intro A W hx hf
   exact Q03 (q0 ?b9_19 A W 36 hf)
   exact onn
  case t9 => exact inferInstance
  clear hr; intro a10 w10 x hr hd hs
  revert s7; revert s2; revert s1; refine kp3 hs rfl ?_; intro s1 s2 s7
  clear s0 s14
  have s0 := fa ?b9_19 a10 w10 0 (hd 20 0 rfl)
  replace e_w := e_w.trans x
  replace e_w5 := e_w5.trans x
  replace m5 := m5.tr hs rfl; clear hd hs x
  refine Q0x ?_
  refine et ?_
  refine Q04 38 [[(7, none)], [(15, some 0)], [(16, some 1)]] [?b11_0, ?b11_1, ?b11_1] Q08 hr ?t11 ?o11 ?_
  case o11 =>
   apply oc0; intro A W hx hf
   exact Q01 (a0 := a10) (r0 hf)
   apply oc0; intro A W hx hf
   exact Q0o (p2 s7 e_w5 hx (q0 ?b11_0 A W 15 hf)) (ec A (.int .i64 2)) (by omega)
   apply oc0; intro A W hx hf
   exact Q03 (q0 ?b11_1 A W 16 hf)
   exact onn
  case t11 => exact inferInstance
  clear hr; intro a12 w12 x hr hd hs
  revert s0; revert s2; revert s1; refine kp3 hs rfl ?_; intro s1 s2 s0
  clear s7
  have s7 := fa ?b11_1 a12 w12 7 (hd 2 7 rfl)
  replace e_w := e_w.trans x
  clear e_w5
  have e_w10 := x
  replace m5 := m5.tr hs rfl; clear hd hs x
  refine et ?_
  refine ⟨(fun (k : Nat) => max f.length t.length + 1 - 2 * k) (k + 1), ?_, ?_⟩
  · (try dsimp only); omega
  refine ⟨k + 1, rfl, hr, m5, e_w, (by omega), ?_, ?_⟩
  · exact (Q00 e_w10 s0)
  · exact Is.int s7 (by omega)
 have hge : max f.length t.length ≤ 2 * k := Qr6 hlt
 refine wp_exit ?_
 refine Q0g ?_
 refine Q0g ?_
 refine Q1a ?_
 refine es ?_
 refine Q04 38 [[(0, none)], [(37, some 0)]] [?b13_0, ?b13_0] Q08 hr ?t13 ?o13 ?_
 case o13 =>
  apply oc0; intro A W hx hf
  exact Q01 (a0 := a7) (r0 hf)
  apply oc0; intro A W hx hf
  exact Q03 (q0 ?b13_0 A W 37 hf)
  exact onn
 case t13 => exact inferInstance
 clear hr; intro a14 w14 x hr hd hs
 have u6 := mv s0 (fa ?b13_0 a14 w14 6 (hd 1 6 rfl))
 clear s1 s2 s0 s7 s14
 have s6 := u6; clear u6
 replace e_w := e_w.trans x
 replace e_w5 := e_w5.trans x; clear hd hs x
 refine et ?_
 refine wp_ret ?_
 refine Q0r Try.results43 hr e_w ?_
 exact Is.int (Q00 e_w5 s6) (Qes hk hge)

def Qal : List Tmp := [5, 11, 12]
theorem Qom {x0 x1 : Value} {w : World} {a b : Int} (h0 : (Is (.int .i64 a)) x0 w) (h1 : (Is (.int .i64 b)) x1 w) (hab : (0 ≤ a ∧ a ≤ 65535) ∧ 0 ≤ b ∧ b ≤ 65535) :
    Calls Try.prog 68 #[x0, x1] w (Ret (Is (.int .i64 (Qdt a b))) w) := by
 refine enter Try.func68 rfl Try.ntmps68 (k := 2) rfl (by decide) (fun a0 hr hargs => ?_)
 have s0 := sarg h0 (hargs 0 (by decide))
 have s1 := sarg h1 (hargs 1 (by decide))
 clear hargs
 refine sq ?_
 refine Q04 14 [[]] [?b1_0] Q08 hr ?t1 ?o1 ?_
 case o1 =>
  apply oc0; intro A W hx hf
  exact Q05
  exact onn
 case t1 => exact inferInstance
 clear hr; intro a2 w2 x hr hd hs
 revert s1; revert s0; refine kp2 hs rfl ?_; intro s0 s1
 have e_w := x; clear hd hs x
 refine es ?_
 refine Q04 14 [[(0, none)], [(1, none)], [(6, some 0), (7, some 1)], [(8, some 2)]] [?b3_0, ?b3_1, ?b3_2, ?b3_2] Q08 hr ?t3 ?o3 ?_
 case o3 =>
  apply oc0; intro A W hx hf
  exact Q01 (a0 := a2) (r0 hf)
  apply oc0; intro A W hx hf
  exact Q01 (a0 := a2) (r0 hf)
  apply oc0; intro A W hx hf
  exact Q0o (p2 s0 e_w hx (q0 ?b3_0 A W 6 hf)) (p2 s1 e_w hx (q1 ?b3_1 A W 7 hf)) (by omega)
  apply oc0; intro A W hx hf
  exact Q03 (q0 ?b3_2 A W 8 hf)
  exact onn
 case t3 => exact inferInstance
 clear hr; intro a4 w4 x hr hd hs
 clear s0 s1
 have s5 := fa ?b3_2 a4 w4 5 (hd 3 5 rfl)
 replace e_w := e_w.trans x; clear hd hs x
 refine es ?_
 refine sq ?_
 refine Q04 14 [[(5, none)], [(9, some 0)]] [?b5_0, ?b5_1] Q08 hr ?t5 ?o5 ?_
 case o5 =>
  apply oc0; intro A W hx hf
  exact Q01 (a0 := a4) (r0 hf)
  apply oc0; intro A W hx hf
  exact Q3m (p1 s5 hx (q0 ?b5_0 A W 9 hf)) (ec A (.int .i64 65535))
  exact onn
 case t5 => exact inferInstance
 clear hr; intro a6 w6 x hr hd hs
 revert s5; refine kp1 hs rfl ?_; intro s5
 have s10 := fa ?b5_1 a6 w6 10 (hd 1 10 rfl)
 replace e_w := e_w.trans x
 have e_w4 := x; clear hd hs x
 refine et ?_
 refine Q33 (fun A W => Fr 14 A ∧ Same Qal a6 A ∧ Ext w W ∧ (Is (.int .i64 (Qdt a b))) (A.eval (.tmp 5)) W) ?cut7 ?_
 case cut7 =>
  have m7 : Same Qal a6 a6 := Same.rfl
  refine wp_cond_split (show _ = _ from s10) (fun hg => ?_) (fun hg => ?_)
  ·
   have hg : a + b > 65535 := by simpa using hg
   refine Q04 14 [[(5, none)], [(11, some 0)], [(12, some 1)]] [?b9_0, ?b9_1, ?b9_1] Q08 hr ?t9 ?o9 ?_
   case o9 =>
    apply oc0; intro A W hx hf
    exact Q01 (a0 := a6) (r0 hf)
    apply oc0; intro A W hx hf
    exact Q9i (p2 s5 e_w4 hx (q0 ?b9_0 A W 11 hf)) (ec A (.int .i64 65535)) (by omega)
    apply oc0; intro A W hx hf
    exact Q03 (q0 ?b9_1 A W 12 hf)
    exact onn
   case t9 => exact inferInstance
   clear hr; intro a10 w10 x hr hd hs
   clear s5 s10
   have s5 := fa ?b9_1 a10 w10 5 (hd 2 5 rfl)
   replace e_w := e_w.trans x
   clear e_w4
   replace m7 := m7.tr hs rfl; clear hd hs x
   refine et ?_
   refine ⟨hr, m7, e_w, ?_⟩
   · first | exact Is.int s5 (by unfold Qdt; rw [if_pos hg]) | exact Is.int s5 (by unfold Qdt; rw [if_neg hg])
  have hg : ¬ a + b > 65535 := by simpa using hg
  refine wp_skip ?_
  refine et ?_
  refine ⟨hr, m7, e_w, ?_⟩
  · first | exact Is.int (Q00 e_w4 s5) (by unfold Qdt; rw [if_pos hg]) | exact Is.int (Q00 e_w4 s5) (by unfold Qdt; rw [if_neg hg])
 intro a7 w7 hI
 clear e_w
 clear e_w4
 clear hr; obtain ⟨hr, hs, e_w, u5⟩ := hI
 clear s5 s10
 have s5 := u5; clear u5
 clear hs
 refine sq ?_
 refine Q04 14 [[(5, none)], [(13, some 0)]] [?b11_0, ?b11_0] Q08 hr ?t11 ?o11 ?_
 case o11 =>
  apply oc0; intro A W hx hf
  exact Q01 (a0 := a7) (r0 hf)
  apply oc0; intro A W hx hf
  exact Q03 (q0 ?b11_0 A W 13 hf)
  exact onn
 case t11 => exact inferInstance
 clear hr; intro a12 w12 x hr hd hs
 have u4 := mv s5 (fa ?b11_0 a12 w12 4 (hd 1 4 rfl))
 clear s5
 have s4 := u4; clear u4
 replace e_w := e_w.trans x
 have e_w7 := x; clear hd hs x
 refine et ?_
 refine wp_ret ?_
 refine Q0r Try.results68 hr e_w ?_
 first | exact (Q00 e_w7 s4) | exact Is.int (Q00 e_w7 s4) (by omega) | exact Is.bool (Q00 e_w7 s4) (by omega)

def Qdz : List Tmp := [3, 4, 5, 6, 7, 8, 9, 10, 11, 12, 13, 14, 15, 16, 17, 18, 19, 20, 21, 22, 23, 24, 25, 26, 27, 28, 29, 30, 31, 32, 33, 34]
def Q91 : List Tmp := [5, 23, 24, 25, 26, 27, 28, 29, 30]
theorem Qm2 {x0 : Value} {w : World} {l : List UInt8} (h0 : (Bs l) x0 w) (hn : l.length ≤ 1000000000000) :
    Calls Try.prog 46 #[x0] w (Ret (Ns .i64 (Q59 l)) w) := by
 refine enter Try.func46 rfl Try.ntmps46 (k := 1) rfl (by decide) (fun a0 hr hargs => ?_)
 have s0 := sarg h0 (hargs 0 (by decide))
 clear hargs
 refine sq ?_
 refine Q04 36 [[]] [?b1_0] Q08 hr ?t1 ?o1 ?_
 case o1 =>
  apply oc0; intro A W hx hf
  exact Q1l (Ns .i64 []) (fun _ => Qpe)
  exact onn
 case t1 => exact inferInstance
 clear hr; intro a2 w2 x hr hd hs
 revert s0; refine kp1 hs rfl ?_; intro s0
 have e_w := x; clear hd hs x
 refine es ?_
 refine Q04 36 [[]] [?b3_0] Q08 hr ?t3 ?o3 ?_
 case o3 =>
  apply oc0; intro A W hx hf
  exact Q1l (OwnN w2.heap.size 3 .i64 []) (fun _ => Qky)
  exact onn
 case t3 => exact inferInstance
 clear hr; intro a4 w4 x hr hd hs
 have z_w_w2 := e_w.size
 revert s0; refine kp1 hs rfl ?_; intro s0
 have s3 := fa ?b3_0 a4 w4 3 (hd 0 3 rfl)
 replace e_w := e_w.trans x
 have e_w2 := x; clear hd hs x
 refine es ?_
 refine sq ?_
 refine Q04 36 [[]] [?b5_0] Q08 hr ?t5 ?o5 ?_
 case o5 =>
  apply oc0; intro A W hx hf
  exact Q05
  exact onn
 case t5 => exact inferInstance
 clear hr; intro a6 w6 x hr hd hs
 revert s3; revert s0; refine kp2 hs rfl ?_; intro s0 s3
 have s4 := fa ?b5_0 a6 w6 4 (hd 0 4 rfl)
 replace e_w := e_w.trans x
 replace e_w2 := e_w2.trans x
 have e_w4 := x; clear hd hs x
 refine et ?_
 refine wp_block ?_
 refine Q14 (fun n A W => ∃ (k : Nat), n = l.length + 1 - 2 * k ∧ Fr 36 A ∧ Same Qdz a6 A ∧ Ext w W ∧ Ext w2 W ∧ (2 * k ≤ l.length + 1) ∧ (OwnN w2.heap.size 3 .i64 ((Q59 l).take k)) (A.eval (.tmp 3)) W ∧ (Is (.int .i64 ((2 * k : Nat) : Int))) (A.eval (.tmp 4)) W) ?start7 ?_
 case start7 =>
  refine ⟨_, 0, rfl, hr, Same.rfl, e_w, e_w2, (by first | assumption | omega), ?_, ?_⟩
  · exact (Q00 e_w4 s3)
  · exact s4
 intro n7 a7 w7 hI
 clear e_w
 clear e_w2
 clear e_w4
 clear hr; obtain ⟨k, hn7, hr, hs, e_w, e_w2, hk, u3, u4⟩ := hI
 revert s0; refine kp1 hs rfl ?_; intro s0
 clear s3 s4
 have s3 := u3; clear u3
 have s4 := u4; clear u4
 have m7 := hs; clear hs
 refine sq ?_
 refine sq ?_
 refine Q04 36 [[(4, none)], [(0, none)], [(7, some 1)], [(6, some 0), (8, some 2)]] [?b8_0, ?b8_1, ?b8_2, ?b8_3] Q08 hr ?t8 ?o8 ?_
 case o8 =>
  apply oc0; intro A W hx hf
  exact Q01 (a0 := a7) (r0 hf)
  apply oc0; intro A W hx hf
  exact Q01 (a0 := a7) (r0 hf)
  apply oc0; intro A W hx hf
  exact Q0v tu22 (p2 s0 e_w hx (q0 ?b8_1 A W 7 hf))
  apply oc0; intro A W hx hf
  exact Q1b (p1 s4 hx (q0 ?b8_0 A W 6 hf)) (q1 ?b8_2 A W 8 hf)
  exact onn
 case t8 => exact inferInstance
 clear hr; intro a9 w9 x hr hd hs
 revert s4; revert s3; revert s0; refine kp3 hs rfl ?_; intro s0 s3 s4
 have s9 := fa ?b8_3 a9 w9 9 (hd 3 9 rfl)
 replace e_w := e_w.trans x
 replace e_w2 := e_w2.trans x
 have e_w7 := x
 replace m7 := m7.tr hs rfl; clear hd hs x
 refine et ?_
 refine wp_cond_split (show _ = _ from s9) (fun hlt => ?_) (fun hlt => ?_)
 ·
  have hlt : 2 * k < l.length := by simp at hlt; omega
  have hz := Q5u l[2 * k]
  refine wp_skip ?_
  refine es ?_
  refine wp_block ?_
  refine sq ?_
  refine Q04 36 [[(0, none)], [(4, none)], [(12, some 0), (13, some 1)], [(14, some 2)], [(15, some 3)], [(16, some 4)], [(17, some 5)]] [?b11_0, ?b11_1, ?b11_2, ?b11_3, ?b11_4, ?b11_5, ?b11_5] Q08 hr ?t11 ?o11 ?_
  case o11 =>
   apply oc0; intro A W hx hf
   exact Q01 (a0 := a9) (r0 hf)
   apply oc0; intro A W hx hf
   exact Q01 (a0 := a9) (r0 hf)
   apply oc0; intro A W hx hf
   exact Q12 (_) tu22 Q0s (p2 s0 e_w hx (q0 ?b11_0 A W 12 hf)) (p2 s4 e_w7 hx (q1 ?b11_1 A W 13 hf)) (by first | omega | decide | (simp; done) | (simp; omega))
   apply oc0; intro A W hx hf
   exact Q1d tu5 rfl (q0 ?b11_2 A W 14 hf)
   apply oc0; intro A W hx hf
   exact Q2k tu5 tu3 (by decide) (q0 ?b11_3 A W 15 hf)
   apply oc0; intro A W hx hf
   exact Q5j (ec A (.int .i64 256)) (q0 ?b11_4 A W 16 hf) (by omega)
   apply oc0; intro A W hx hf
   exact Q03 (q0 ?b11_5 A W 17 hf)
   exact onn
  case t11 => exact inferInstance
  clear hr; intro a12 w12 x hr hd hs
  revert s4; revert s3; revert s0; refine kp3 hs rfl ?_; intro s0 s3 s4
  clear s9
  have s5 := fa ?b11_5 a12 w12 5 (hd 6 5 rfl)
  replace e_w := e_w.trans x
  replace e_w2 := e_w2.trans x
  replace e_w7 := e_w7.trans x
  replace m7 := m7.tr hs rfl; clear hd hs x
  refine es ?_
  refine sq ?_
  refine Q04 36 [[(4, none)], [(18, some 0)], [(0, none)], [(20, some 2)], [(19, some 1), (21, some 3)]] [?b13_0, ?b13_1, ?b13_2, ?b13_3, ?b13_4] Q08 hr ?t13 ?o13 ?_
  case o13 =>
   apply oc0; intro A W hx hf
   exact Q01 (a0 := a12) (r0 hf)
   apply oc0; intro A W hx hf
   exact Q0o (p2 s4 e_w7 hx (q0 ?b13_0 A W 18 hf)) (ec A (.int .i64 1)) (by omega)
   apply oc0; intro A W hx hf
   exact Q01 (a0 := a12) (r0 hf)
   apply oc0; intro A W hx hf
   exact Q0v tu22 (p2 s0 e_w hx (q0 ?b13_2 A W 20 hf))
   apply oc0; intro A W hx hf
   exact Q1b (q0 ?b13_1 A W 19 hf) (q1 ?b13_3 A W 21 hf)
   exact onn
  case t13 => exact inferInstance
  clear hr; intro a14 w14 x hr hd hs
  revert s5; revert s4; revert s3; revert s0; refine kp4 hs rfl ?_; intro s0 s3 s4 s5
  have s22 := fa ?b13_4 a14 w14 22 (hd 4 22 rfl)
  replace e_w := e_w.trans x
  replace e_w2 := e_w2.trans x
  replace e_w7 := e_w7.trans x
  have e_w12 := x
  replace m7 := m7.tr hs rfl; clear hd hs x
  refine et ?_
  refine Q33 (fun A W => Fr 36 A ∧ Same Q91 a14 A ∧ Ext w W ∧ Ext w2 W ∧ Ext w7 W ∧ (Is (.int .i64 (Q07 l (2 * k)))) (A.eval (.tmp 5)) W) ?cut15 ?_
  case cut15 =>
   have m15 : Same Q91 a14 a14 := Same.rfl
   refine wp_cond_split (show _ = _ from s22) (fun h1 => ?_) (fun h1 => ?_)
   ·
    have h1 : 2 * k + 1 < l.length := by simp at h1; omega
    have hz1 := Q5u l[2 * k + 1]
    refine Q04 36 [[(5, none)], [(0, none)], [(4, none)], [(25, some 2)], [(24, some 1), (26, some 3)], [(27, some 4)], [(28, some 5)], [(23, some 0), (29, some 6)], [(30, some 7)]] [?b17_0, ?b17_1, ?b17_2, ?b17_3, ?b17_4, ?b17_5, ?b17_6, ?b17_7, ?b17_7] Q08 hr ?t17 ?o17 ?_
    case o17 =>
     apply oc0; intro A W hx hf
     exact Q01 (a0 := a14) (r0 hf)
     apply oc0; intro A W hx hf
     exact Q01 (a0 := a14) (r0 hf)
     apply oc0; intro A W hx hf
     exact Q01 (a0 := a14) (r0 hf)
     apply oc0; intro A W hx hf
     exact Q0o (p2 s4 e_w7 hx (q0 ?b17_2 A W 25 hf)) (ec A (.int .i64 1)) (by omega)
     apply oc0; intro A W hx hf
     exact Q12 (2 * k + 1) tu22 Q0s (p2 s0 e_w hx (q0 ?b17_1 A W 24 hf)) (Is.int (q1 ?b17_3 A W 26 hf) (by omega)) (by first | omega | decide | (simp; done) | (simp; omega))
     apply oc0; intro A W hx hf
     exact Q1d tu5 rfl (q0 ?b17_4 A W 27 hf)
     apply oc0; intro A W hx hf
     exact Q2k tu5 tu3 (by decide) (q0 ?b17_5 A W 28 hf)
     apply oc0; intro A W hx hf
     exact Q0o (p2 s5 e_w12 hx (q0 ?b17_0 A W 23 hf)) (q1 ?b17_6 A W 29 hf) (by omega)
     apply oc0; intro A W hx hf
     exact Q03 (q0 ?b17_7 A W 30 hf)
     exact onn
    case t17 => exact inferInstance
    clear hr; intro a18 w18 x hr hd hs
    revert s4; revert s3; revert s0; refine kp3 hs rfl ?_; intro s0 s3 s4
    clear s5 s22
    have s5 := fa ?b17_7 a18 w18 5 (hd 8 5 rfl)
    replace e_w := e_w.trans x
    replace e_w2 := e_w2.trans x
    replace e_w7 := e_w7.trans x
    clear e_w12
    replace m7 := m7.tr hs rfl
    replace m15 := m15.tr hs rfl; clear hd hs x
    refine et ?_
    refine ⟨hr, m15, e_w, e_w2, e_w7, ?_⟩
    · first | exact Is.int s5 (by unfold Q07; rw [Q10 hlt, Q10 h1]) | exact Is.int s5 (by unfold Q07; rw [Q10 hlt, Q6v h1]; omega)
   have h1 : l.length ≤ 2 * k + 1 := by simp at h1; omega
   refine wp_skip ?_
   refine et ?_
   refine ⟨hr, m15, e_w, e_w2, e_w7, ?_⟩
   · first | exact Is.int (Q00 e_w12 s5) (by unfold Q07; rw [Q10 hlt, Q10 h1]) | exact Is.int (Q00 e_w12 s5) (by unfold Q07; rw [Q10 hlt, Q6v h1]; omega)
  intro a15 w15 hI
  clear e_w
  clear e_w2
  clear e_w7
  clear e_w12
  clear hr; obtain ⟨hr, hs, e_w, e_w2, e_w7, u5⟩ := hI
  revert s4; revert s3; revert s0; refine kp3 hs rfl ?_; intro s0 s3 s4
  clear s5 s22
  have s5 := u5; clear u5
  replace m7 := m7.tr hs rfl
  clear hs
  refine Q06 (l := [_, _, _]) (rest := [_, _]) 36 [[(3, none)], [(5, none)], [(32, some 1)]] [?b19_0, ?b19_1, ?b19_2] hr ?t19 ?o19 ?_
  case o19 =>
   apply oc0; intro A W hx hf
   exact Q01 (a0 := a15) (r0 hf)
   apply oc0; intro A W hx hf
   exact Q01 (a0 := a15) (r0 hf)
   apply oc0; intro A W hx hf
   exact Qh0 [(.tmp 32)] [_] tu89 Q0m Qrw rfl rfl (by decide) (PartsOk.cons (p1 s5 hx (q0 ?b19_1 A W 32 hf)) (PartsOk.nil))
   exact onn
  case t19 => exact inferInstance
  clear hr; intro a20 w20 x hr hd hs
  have u31 := mv s3 (fa ?b19_0 a20 w20 31 (hd 0 31 rfl))
  revert s4; revert s3; revert s0; refine kp3 hs rfl ?_; intro s0 s3 s4
  clear s5
  have s31 := u31; clear u31
  have s33 := fa ?b19_2 a20 w20 33 (hd 2 33 rfl)
  replace e_w := e_w.trans x
  replace e_w2 := e_w2.trans x
  replace e_w7 := e_w7.trans x
  replace m7 := m7.tr hs rfl; clear hd hs x
  refine Qcr hr (by decide) tu89 Qrs rfl (Q00 e_w7 s31) s33 e_w2.size (by simp [Q6j]; omega) ?_; clear hr; intro a21 w21 hb hr hd hs
  revert s4; revert s3; revert s0; refine kp3 hs rfl ?_; intro s0 s3 s4
  clear s31 s33
  have s34 := hd
  replace e_w := e_w.below z_w_w2 hb
  replace e_w2 := e_w2.below (Nat.le_refl _) hb
  clear e_w7
  replace s4 := anyw (w2 := w21) s4
  replace m7 := m7.tr hs rfl
  clear hd hs hb
  refine Q11 hr (Q03 s34) inferInstance ?_; clear hr; intro a22 w22 x hr hd hs
  revert s4; revert s0; refine kp2 hs rfl ?_; intro s0 s4
  clear s34
  have s3 := hd 3 rfl (by decide)
  replace e_w := e_w.trans x
  replace e_w2 := e_w2.trans x
  have e_w21 := x
  replace m7 := m7.tr hs rfl; clear hd hs x
  refine wpList_nil ?_
  refine Q0x ?_
  refine et ?_
  refine Q04 36 [[(4, none)], [(10, some 0)], [(11, some 1)]] [?b23_0, ?b23_1, ?b23_1] Q08 hr ?t23 ?o23 ?_
  case o23 =>
   apply oc0; intro A W hx hf
   exact Q01 (a0 := a22) (r0 hf)
   apply oc0; intro A W hx hf
   exact Q0o (p2 s4 e_w21 hx (q0 ?b23_0 A W 10 hf)) (ec A (.int .i64 2)) (by omega)
   apply oc0; intro A W hx hf
   exact Q03 (q0 ?b23_1 A W 11 hf)
   exact onn
  case t23 => exact inferInstance
  clear hr; intro a24 w24 x hr hd hs
  revert s3; revert s0; refine kp2 hs rfl ?_; intro s0 s3
  clear s4
  have s4 := fa ?b23_1 a24 w24 4 (hd 2 4 rfl)
  replace e_w := e_w.trans x
  replace e_w2 := e_w2.trans x
  clear e_w21
  have e_w22 := x
  replace m7 := m7.tr hs rfl; clear hd hs x
  refine et ?_
  refine ⟨(fun (k : Nat) => l.length + 1 - 2 * k) (k + 1), ?_, ?_⟩
  · (try dsimp only); omega
  refine ⟨k + 1, rfl, hr, m7, e_w, e_w2, (by first | assumption | omega), ?_, ?_⟩
  · rw [Qhe l k hlt]; exact (Q00 e_w22 s3)
  · exact Is.int s4 (by omega)
 have hge : l.length ≤ 2 * k := by simp at hlt; omega
 refine wp_exit ?_
 refine Q0g ?_
 refine Q0g ?_
 refine Q1a ?_
 refine es ?_
 refine Q04 36 [[(3, none)], [(35, some 0)]] [?b25_0, ?b25_0] Q08 hr ?t25 ?o25 ?_
 case o25 =>
  apply oc0; intro A W hx hf
  exact Q01 (a0 := a9) (r0 hf)
  apply oc0; intro A W hx hf
  exact Q03 (q0 ?b25_0 A W 35 hf)
  exact onn
 case t25 => exact inferInstance
 clear hr; intro a26 w26 x hr hd hs
 have u2 := mv s3 (fa ?b25_0 a26 w26 2 (hd 1 2 rfl))
 clear s0 s3 s4 s9
 have s2 := u2; clear u2
 replace e_w := e_w.trans x
 replace e_w2 := e_w2.trans x
 replace e_w7 := e_w7.trans x; clear hd hs x
 refine et ?_
 refine wp_ret ?_
 refine Q0r Try.results46 hr e_w ?_
 (rw [Qjp l k hge] at s2; exact OwnN.ns (Q00 e_w7 s2))

def Qhj : List Tmp := [4, 5, 8, 9, 10, 11, 12, 13, 14, 15, 16, 17, 18, 19]
theorem Qn8 {x0 : Value} {w : World} {l : List UInt8} (h0 : (Bs l) x0 w) (hn : l.length ≤ 1000000000000) :
    Calls Try.prog 50 #[x0] w (Ret (Is (.int .i64 (ck l))) w) := by
 have hwl := Q6j l
 refine enter Try.func50 rfl Try.ntmps50 (k := 1) rfl (by decide) (fun a0 hr hargs => ?_)
 have s0 := sarg h0 (hargs 0 (by decide))
 clear hargs
 refine sq ?_
 refine Q04 22 [[]] [?b1_0] Q08 hr ?t1 ?o1 ?_
 case o1 =>
  apply oc0; intro A W hx hf
  exact Q05
  exact onn
 case t1 => exact inferInstance
 clear hr; intro a2 w2 x hr hd hs
 revert s0; refine kp1 hs rfl ?_; intro s0
 have e_w := x; clear hd hs x
 refine es ?_
 refine Q04 22 [[(0, none)], [(6, some 0)], [(7, some 1)]] [?b3_0, ?b3_1, ?b3_1] Q08 hr ?t3 ?o3 ?_
 case o3 =>
  apply oc0; intro A W hx hf
  exact Q01 (a0 := a2) (r0 hf)
  apply oc0; intro A W hx hf
  exact Q18 Qpx (Qm2 (p2 s0 e_w hx (q0 ?b3_0 A W 6 hf)) (by omega))
  apply oc0; intro A W hx hf
  exact Q03 (q0 ?b3_1 A W 7 hf)
  exact onn
 case t3 => exact inferInstance
 clear hr; intro a4 w4 x hr hd hs
 clear s0
 have s3 := fa ?b3_1 a4 w4 3 (hd 2 3 rfl)
 replace e_w := e_w.trans x; clear hd hs x
 refine es ?_
 refine Q04 22 [[]] [?b5_0] Q08 hr ?t5 ?o5 ?_
 case o5 =>
  apply oc0; intro A W hx hf
  exact Q05
  exact onn
 case t5 => exact inferInstance
 clear hr; intro a6 w6 x hr hd hs
 revert s3; refine kp1 hs rfl ?_; intro s3
 have s4 := fa ?b5_0 a6 w6 4 (hd 0 4 rfl)
 replace e_w := e_w.trans x
 have e_w4 := x; clear hd hs x
 refine es ?_
 refine sq ?_
 refine Q04 22 [[]] [?b7_0] Q08 hr ?t7 ?o7 ?_
 case o7 =>
  apply oc0; intro A W hx hf
  exact Q05
  exact onn
 case t7 => exact inferInstance
 clear hr; intro a8 w8 x hr hd hs
 revert s4; revert s3; refine kp2 hs rfl ?_; intro s3 s4
 have s5 := fa ?b7_0 a8 w8 5 (hd 0 5 rfl)
 replace e_w := e_w.trans x
 replace e_w4 := e_w4.trans x
 have e_w6 := x; clear hd hs x
 refine et ?_
 refine wp_block ?_
 refine Q14 (fun n A W => ∃ (k : Nat), n = (Q59 l).length - k ∧ Fr 22 A ∧ Same Qhj a8 A ∧ Ext w W ∧ Ext w4 W ∧ (k ≤ (Q59 l).length) ∧ (Is (.int .i64 (norm (Q5e l k)))) (A.eval (.tmp 4)) W ∧ (Is (.int .i64 (k : Int))) (A.eval (.tmp 5)) W) ?start9 ?_
 case start9 =>
  refine ⟨_, 0, rfl, hr, Same.rfl, e_w, e_w4, (by first | assumption | omega), ?_, ?_⟩
  · exact (Q00 e_w6 s4)
  · exact s5
 intro n9 a9 w9 hI
 clear e_w
 clear e_w4
 clear e_w6
 clear hr; obtain ⟨k, hn9, hr, hs, e_w, e_w4, hk, u4, u5⟩ := hI
 revert s3; refine kp1 hs rfl ?_; intro s3
 clear s4 s5
 have s4 := u4; clear u4
 have s5 := u5; clear u5
 have m9 := hs; clear hs
 refine sq ?_
 refine sq ?_
 refine Q04 22 [[(5, none)], [(3, none)], [(9, some 1)], [(8, some 0), (10, some 2)]] [?b10_0, ?b10_1, ?b10_2, ?b10_3] Q08 hr ?t10 ?o10 ?_
 case o10 =>
  apply oc0; intro A W hx hf
  exact Q01 (a0 := a9) (r0 hf)
  apply oc0; intro A W hx hf
  exact Q01 (a0 := a9) (r0 hf)
  apply oc0; intro A W hx hf
  exact Qi2 tu89 (p2 s3 e_w4 hx (q0 ?b10_1 A W 9 hf))
  apply oc0; intro A W hx hf
  exact Q1b (p1 s5 hx (q0 ?b10_0 A W 8 hf)) (q1 ?b10_2 A W 10 hf)
  exact onn
 case t10 => exact inferInstance
 clear hr; intro a11 w11 x hr hd hs
 revert s5; revert s4; revert s3; refine kp3 hs rfl ?_; intro s3 s4 s5
 have s11 := fa ?b10_3 a11 w11 11 (hd 3 11 rfl)
 replace e_w := e_w.trans x
 replace e_w4 := e_w4.trans x
 have e_w9 := x
 replace m9 := m9.tr hs rfl; clear hd hs x
 refine et ?_
 refine wp_cond_split (show _ = _ from s11) (fun hlt => ?_) (fun hlt => ?_)
 ·
  have hlt : k < (Q59 l).length := by simp at hlt; omega
  refine wp_skip ?_
  refine es ?_
  refine wp_block ?_
  refine Q04 22 [[(4, none)], [(3, none)], [(5, none)], [(15, some 1), (16, some 2)], [(17, some 3)], [(14, some 0), (18, some 4)], [(19, some 5)]] [?b13_0, ?b13_1, ?b13_2, ?b13_3, ?b13_4, ?b13_5, ?b13_5] Q08 hr ?t13 ?o13 ?_
  case o13 =>
   apply oc0; intro A W hx hf
   exact Q01 (a0 := a11) (r0 hf)
   apply oc0; intro A W hx hf
   exact Q01 (a0 := a11) (r0 hf)
   apply oc0; intro A W hx hf
   exact Q01 (a0 := a11) (r0 hf)
   apply oc0; intro A W hx hf
   exact Qe8 (_) tu89 Q0m (p2 s3 e_w4 hx (q0 ?b13_1 A W 15 hf)) (p2 s5 e_w9 hx (q1 ?b13_2 A W 16 hf)) (by first | omega | decide | (simp; done) | (simp; omega))
   apply oc0; intro A W hx hf
   exact Q1d tu3 rfl (q0 ?b13_3 A W 17 hf)
   apply oc0; intro A W hx hf
   exact Q0p Qq6 (Qom (p2 s4 e_w9 hx (q0 ?b13_0 A W 14 hf)) (q1 ?b13_4 A W 18 hf) (by exact ⟨Q79 _, by rw [Qa9 l k hlt]; exact Q0w l _⟩))
   apply oc0; intro A W hx hf
   exact Q03 (q0 ?b13_5 A W 19 hf)
   exact onn
  case t13 => exact inferInstance
  clear hr; intro a14 w14 x hr hd hs
  revert s5; revert s3; refine kp2 hs rfl ?_; intro s3 s5
  clear s4 s11
  have s4 := fa ?b13_5 a14 w14 4 (hd 6 4 rfl)
  replace e_w := e_w.trans x
  replace e_w4 := e_w4.trans x
  replace e_w9 := e_w9.trans x
  replace m9 := m9.tr hs rfl; clear hd hs x
  refine Q0x ?_
  refine et ?_
  refine Q04 22 [[(5, none)], [(12, some 0)], [(13, some 1)]] [?b15_0, ?b15_1, ?b15_1] Q08 hr ?t15 ?o15 ?_
  case o15 =>
   apply oc0; intro A W hx hf
   exact Q01 (a0 := a14) (r0 hf)
   apply oc0; intro A W hx hf
   exact Q0o (p2 s5 e_w9 hx (q0 ?b15_0 A W 12 hf)) (ec A (.int .i64 1)) (by omega)
   apply oc0; intro A W hx hf
   exact Q03 (q0 ?b15_1 A W 13 hf)
   exact onn
  case t15 => exact inferInstance
  clear hr; intro a16 w16 x hr hd hs
  revert s4; revert s3; refine kp2 hs rfl ?_; intro s3 s4
  clear s5
  have s5 := fa ?b15_1 a16 w16 5 (hd 2 5 rfl)
  replace e_w := e_w.trans x
  replace e_w4 := e_w4.trans x
  clear e_w9
  have e_w14 := x
  replace m9 := m9.tr hs rfl; clear hd hs x
  refine et ?_
  refine ⟨(fun (k : Nat) => (Q59 l).length - k) (k + 1), ?_, ?_⟩
  · (try dsimp only); omega
  refine ⟨k + 1, rfl, hr, m9, e_w, e_w4, (by first | assumption | omega), ?_, ?_⟩
  · exact Is.int (Q00 e_w14 s4) (by rw [Qa9 l k hlt]; exact Qhd (Q8y l k) (Q0w l _).1 (Q0w l _).2)
  · first | exact s5 | exact Is.int s5 (by first | omega | simp) | exact Is.bool s5 (by first | omega | simp)
 have hge : k = (Q59 l).length := by simp at hlt; omega
 subst hge
 refine wp_exit ?_
 refine Q0g ?_
 refine Q0g ?_
 refine Q1a ?_
 refine es ?_
 have hb := Q79 (Q5e l (Q59 l).length)
 refine Q04 22 [[(4, none)], [(20, some 0)], [(21, some 1)]] [?b17_0, ?b17_1, ?b17_1] Q08 hr ?t17 ?o17 ?_
 case o17 =>
  apply oc0; intro A W hx hf
  exact Q01 (a0 := a11) (r0 hf)
  apply oc0; intro A W hx hf
  exact Q9i (ec A (.int .i64 65535)) (p2 s4 e_w9 hx (q0 ?b17_0 A W 20 hf)) (by omega)
  apply oc0; intro A W hx hf
  exact Q03 (q0 ?b17_1 A W 21 hf)
  exact onn
 case t17 => exact inferInstance
 clear hr; intro a18 w18 x hr hd hs
 clear s3 s4 s5 s11
 have s2 := fa ?b17_1 a18 w18 2 (hd 2 2 rfl)
 replace e_w := e_w.trans x
 clear e_w4
 clear e_w9; clear hd hs x
 refine et ?_
 refine wp_ret ?_
 refine Q0r Try.results50 hr e_w ?_
 exact Is.int s2 (Qlj l)

theorem Qgi {x0 x1 : Value} {w : World} {l m : List UInt8} (h0 : (Bs l) x0 w) (h1 : (Bs m) x1 w)  :
    Calls Try.prog 13 #[x0, x1] w (Ret (Is (.bool (l == m))) w) := by
 refine enter Try.func13 rfl Try.ntmps13 (k := 2) rfl (by decide) (fun a0 hr hargs => ?_)
 have s0 := sarg h0 (hargs 0 (by decide))
 have s1 := sarg h1 (hargs 1 (by decide))
 clear hargs
 refine sq ?_
 refine Q04 10 [[]] [?b1_0] Q08 hr ?t1 ?o1 ?_
 case o1 =>
  apply oc0; intro A W hx hf
  exact Q05
  exact onn
 case t1 => exact inferInstance
 clear hr; intro a2 w2 x hr hd hs
 revert s1; revert s0; refine kp2 hs rfl ?_; intro s0 s1
 have e_w := x; clear hd hs x
 refine es ?_
 refine Q04 10 [[(0, none)], [(5, some 0)], [(1, none)], [(7, some 2)], [(6, some 1), (8, some 3)], [(9, some 4)]] [?b3_0, ?b3_1, ?b3_2, ?b3_3, ?b3_4, ?b3_4] Q08 hr ?t3 ?o3 ?_
 case o3 =>
  apply oc0; intro A W hx hf
  exact Q01 (a0 := a2) (r0 hf)
  apply oc0; intro A W hx hf
  exact Qmf Try.underlying22 Try.underlying5 Try.underlying9 (p2 s0 e_w hx (q0 ?b3_0 A W 5 hf))
  apply oc0; intro A W hx hf
  exact Q01 (a0 := a2) (r0 hf)
  apply oc0; intro A W hx hf
  exact Qmf Try.underlying22 Try.underlying5 Try.underlying9 (p2 s1 e_w hx (q0 ?b3_2 A W 7 hf))
  apply oc0; intro A W hx hf
  exact Qp9 (q0 ?b3_1 A W 6 hf) (q1 ?b3_3 A W 8 hf)
  apply oc0; intro A W hx hf
  exact Q03 (q0 ?b3_4 A W 9 hf)
  exact onn
 case t3 => exact inferInstance
 clear hr; intro a4 w4 x hr hd hs
 clear s0 s1
 have s4 := fa ?b3_4 a4 w4 4 (hd 5 4 rfl)
 replace e_w := e_w.trans x; clear hd hs x
 refine et ?_
 refine wp_ret ?_
 refine Q0r Try.results13 hr e_w ?_
 exact Is.bool s4 (by rw [Q9g, Q9g])

def Q84 : List Tmp := [10]
def Qcj : List Tmp := [9, 11, 15, 16, 17, 18, 19, 20, 21, 22, 23, 24, 25, 26]
def Qck : List Tmp := [9, 12, 27, 28, 29, 30, 31, 32, 33, 34, 35, 36, 37, 38]
theorem Qk6 {x0 x1 x2 x3 : Value} {w : World} {Sa Da : Adr} {p n : Int} {B : Nat} (h0 : (Is (AdrV Sa)) x0 w) (h1 : (Is (AdrV Da)) x1 w) (h2 : (Is (.int .i64 p)) x2 w) (h3 : (Is (.int .i64 n)) x3 w) (hA : Sa.b.length = 16) (hD : Da.b.length = 16) (hn : 0 ≤ n ∧ n ≤ 65535) (hB : B ≤ w.heap.size) :
    Calls Try.prog 55 #[x0, x1, x2, x3] w (Ret (OwnB B 5 (Q2n Sa Da p n)) w) := by
 obtain ⟨N, hN, hN16⟩ : ∃ N : Nat, N = (if Sa.six then 16 else 4) ∧ N ≤ 16 := ⟨_, rfl, by split <;> omega⟩
 refine enter Try.func55 rfl Try.ntmps55 (k := 4) rfl (by decide) (fun a0 hr hargs => ?_)
 have s0 := sarg h0 (hargs 0 (by decide))
 have s1 := sarg h1 (hargs 1 (by decide))
 have s2 := sarg h2 (hargs 2 (by decide))
 have s3 := sarg h3 (hargs 3 (by decide))
 clear hargs
 refine sq ?_
 refine Q04 63 [[(0, none)], [(1, none)], []] [?b1_0, ?b1_1, ?b1_2] Q08 hr ?t1 ?o1 ?_
 case o1 =>
  apply oc0; intro A W hx hf
  exact Qi3 (o1 s0 hx (r0 hf))
  apply oc0; intro A W hx hf
  exact Qi3 (o1 s1 hx (r0 hf))
  apply oc0; intro A W hx hf
  exact Q1l (Bs []) (fun _ => Qi5)
  exact onn
 case t1 => exact inferInstance
 clear hr; intro a2 w2 x hr hd hs
 revert s3; revert s2; refine kp2 hs rfl ?_; intro s2 s3
 clear s0 s1
 have s4 := fa ?b1_0 a2 w2 4 (hd 0 4 rfl)
 have s5 := fa ?b1_1 a2 w2 5 (hd 1 5 rfl)
 have e_w := x; clear hd hs x
 refine es ?_
 refine Q04 63 [[]] [?b3_0] Q08 hr ?t3 ?o3 ?_
 case o3 =>
  apply oc0; intro A W hx hf
  exact Q1l (OwnB w2.heap.size 5 []) (fun _ => Qkx)
  exact onn
 case t3 => exact inferInstance
 clear hr; intro a4 w4 x hr hd hs
 have z_w_w2 := e_w.size
 revert s5; revert s4; revert s3; revert s2; refine kp4 hs rfl ?_; intro s2 s3 s4 s5
 have s9 := fa ?b3_0 a4 w4 9 (hd 0 9 rfl)
 replace e_w := e_w.trans x
 have e_w2 := x; clear hd hs x
 refine es ?_
 refine Q04 63 [[]] [?b5_0] Q08 hr ?t5 ?o5 ?_
 case o5 =>
  apply oc0; intro A W hx hf
  exact Q05
  exact onn
 case t5 => exact inferInstance
 clear hr; intro a6 w6 x hr hd hs
 revert s9; revert s5; revert s4; revert s3; revert s2; refine kp5 hs rfl ?_; intro s2 s3 s4 s5 s9
 have s10 := fa ?b5_0 a6 w6 10 (hd 0 10 rfl)
 replace e_w := e_w.trans x
 replace e_w2 := e_w2.trans x
 have e_w4 := x; clear hd hs x
 refine es ?_
 refine sq ?_
 refine Q04 63 [[(4, none)], [(13, some 0)]] [?b7_0, ?b7_1] Q08 hr ?t7 ?o7 ?_
 case o7 =>
  apply oc0; intro A W hx hf
  exact Q2s tu25 (i := 0) rfl Q4r rfl (o2 s4 e_w2 hx (r0 hf))
  apply oc0; intro A W hx hf
  exact Q7j tu4 rfl (q0 ?b7_0 A W 13 hf)
  exact onn
 case t7 => exact inferInstance
 clear hr; intro a8 w8 x hr hd hs
 revert s10; revert s9; revert s5; revert s4; revert s3; revert s2; refine kp6 hs rfl ?_; intro s2 s3 s4 s5 s9 s10
 have s14 := fa ?b7_1 a8 w8 14 (hd 1 14 rfl)
 replace e_w := e_w.trans x
 replace e_w2 := e_w2.trans x
 replace e_w4 := e_w4.trans x
 have e_w6 := x; clear hd hs x
 refine et ?_
 refine Q33 (fun A W => Fr 63 A ∧ Same Q84 a8 A ∧ Ext w W ∧ Ext w2 W ∧ Ext w4 W ∧ (Is (.int .i64 (N : Int))) (A.eval (.tmp 10)) W) ?cut9 ?_
 case cut9 =>
  have m9 : Same Q84 a8 a8 := Same.rfl
  refine wp_cond_split (show _ = _ from s14) (fun h6 => ?_) (fun h6 => ?_)
  ·
   skip
   refine Q04 63 [[]] [?b11_0] Q08 hr ?t11 ?o11 ?_
   case o11 =>
    apply oc0; intro A W hx hf
    exact Q05
    exact onn
   case t11 => exact inferInstance
   clear hr; intro a12 w12 x hr hd hs
   revert s9; revert s5; revert s4; revert s3; revert s2; refine kp5 hs rfl ?_; intro s2 s3 s4 s5 s9
   clear s10 s14
   have s10 := fa ?b11_0 a12 w12 10 (hd 0 10 rfl)
   replace e_w := e_w.trans x
   replace e_w2 := e_w2.trans x
   replace e_w4 := e_w4.trans x
   clear e_w6
   replace m9 := m9.tr hs rfl; clear hd hs x
   refine et ?_
   refine ⟨hr, m9, e_w, e_w2, e_w4, ?_⟩
   · first | exact Is.int s10 (by rw [hN, if_pos h6]; rfl) | exact Is.int s10 (by rw [hN, if_neg (by rw [h6]; decide)]; rfl)
  skip
  refine wp_skip ?_
  refine et ?_
  refine ⟨hr, m9, e_w, e_w2, e_w4, ?_⟩
  · first | exact Is.int (Q00 e_w6 s10) (by rw [hN, if_pos h6]; rfl) | exact Is.int (Q00 e_w6 s10) (by rw [hN, if_neg (by rw [h6]; decide)]; rfl)
 intro a9 w9 hI
 clear e_w
 clear e_w2
 clear e_w4
 clear e_w6
 clear hr; obtain ⟨hr, hs, e_w, e_w2, e_w4, u10⟩ := hI
 revert s9; revert s5; revert s4; revert s3; revert s2; refine kp5 hs rfl ?_; intro s2 s3 s4 s5 s9
 clear s10 s14
 have s10 := u10; clear u10
 clear hs
 refine sq ?_
 refine sq ?_
 refine Q04 63 [[]] [?b13_0] Q08 hr ?t13 ?o13 ?_
 case o13 =>
  apply oc0; intro A W hx hf
  exact Q05
  exact onn
 case t13 => exact inferInstance
 clear hr; intro a14 w14 x hr hd hs
 revert s10; revert s9; revert s5; revert s4; revert s3; revert s2; refine kp6 hs rfl ?_; intro s2 s3 s4 s5 s9 s10
 have s11 := fa ?b13_0 a14 w14 11 (hd 0 11 rfl)
 replace e_w := e_w.trans x
 replace e_w2 := e_w2.trans x
 replace e_w4 := e_w4.trans x
 have e_w9 := x; clear hd hs x
 refine et ?_
 refine wp_block ?_
 refine Q14 (fun n A W => ∃ (i : Nat), n = N - i ∧ Fr 63 A ∧ Same Qcj a14 A ∧ Ext w W ∧ Ext w2 W ∧ (i ≤ N) ∧ (OwnB w2.heap.size 5 (Sa.b.take i)) (A.eval (.tmp 9)) W ∧ (Is (.int .i64 (i : Int))) (A.eval (.tmp 11)) W) ?start15 ?_
 case start15 =>
  refine ⟨_, 0, rfl, hr, Same.rfl, e_w, e_w2, (by first | assumption | omega), ?_, ?_⟩
  · exact (Q00 e_w4 s9)
  · exact s11
 intro n15 a15 w15 hI
 clear e_w
 clear e_w2
 clear e_w4
 clear e_w9
 clear hr; obtain ⟨i, hn15, hr, hs, e_w, e_w2, hi, u9, u11⟩ := hI
 revert s10; revert s5; revert s4; revert s3; revert s2; refine kp5 hs rfl ?_; intro s2 s3 s4 s5 s10
 clear s9 s11
 have s9 := u9; clear u9
 have s11 := u11; clear u11
 replace s10 := anyw (w2 := w15) s10
 have m15 := hs; clear hs
 refine sq ?_
 refine sq ?_
 refine Q04 63 [[(11, none)], [(10, none)], [(15, some 0), (16, some 1)]] [?b16_0, ?b16_1, ?b16_2] Q08 hr ?t16 ?o16 ?_
 case o16 =>
  apply oc0; intro A W hx hf
  exact Q01 (a0 := a15) (r0 hf)
  apply oc0; intro A W hx hf
  exact Q01 (a0 := a15) (r0 hf)
  apply oc0; intro A W hx hf
  exact Q1b (p1 s11 hx (q0 ?b16_0 A W 15 hf)) (p1 s10 hx (q1 ?b16_1 A W 16 hf))
  exact onn
 case t16 => exact inferInstance
 clear hr; intro a17 w17 x hr hd hs
 revert s11; revert s9; revert s5; revert s4; revert s3; revert s2; refine kp6 hs rfl ?_; intro s2 s3 s4 s5 s9 s11
 revert s10; refine kp1 hs rfl ?_; intro s10
 have s17 := fa ?b16_2 a17 w17 17 (hd 2 17 rfl)
 replace e_w := e_w.trans x
 replace e_w2 := e_w2.trans x
 have e_w15 := x
 replace m15 := m15.tr hs rfl; clear hd hs x
 refine et ?_
 refine wp_cond_split (show _ = _ from s17) (fun hlt => ?_) (fun hlt => ?_)
 ·
  have hlt : i < N := by simp at hlt; omega
  refine wp_skip ?_
  refine es ?_
  refine wp_block ?_
  refine Q06 (l := [_, _, _, _, _, _]) (rest := [_, _]) 63 [[(9, none)], [(11, none)], [(4, none)], [(22, some 2), (21, some 1)], [(23, some 3)], [(24, some 4)]] [?b19_0, ?b19_1, ?b19_2, ?b19_3, ?b19_4, ?b19_5] hr ?t19 ?o19 ?_
  case o19 =>
   apply oc0; intro A W hx hf
   exact Q01 (a0 := a17) (r0 hf)
   apply oc0; intro A W hx hf
   exact Q01 (a0 := a17) (r0 hf)
   apply oc0; intro A W hx hf
   exact Q2s tu25 (i := 1) rfl Q61 rfl (o2 s4 e_w2 hx (r0 hf))
   apply oc0; intro A W hx hf
   exact Q7b (_) tu23 Q0s (Qfk hA) hA (by decide) (q0 ?b19_2 A W 22 hf) (p2 s11 e_w15 hx (q1 ?b19_1 A W 21 hf)) (by first | omega | decide | (simp; done) | (simp; omega))
   apply oc0; intro A W hx hf
   exact Q1d tu5 rfl (q0 ?b19_3 A W 23 hf)
   apply oc0; intro A W hx hf
   exact Q21 [(.tmp 24)] [_] tu22 Q0s Q45 rfl rfl (by decide) (PartsOk.cons (q0 ?b19_4 A W 24 hf) (PartsOk.nil))
   exact onn
  case t19 => exact inferInstance
  clear hr; intro a20 w20 x hr hd hs
  have u20 := mv s9 (fa ?b19_0 a20 w20 20 (hd 0 20 rfl))
  revert s11; revert s9; revert s5; revert s4; revert s3; revert s2; refine kp6 hs rfl ?_; intro s2 s3 s4 s5 s9 s11
  revert s10; refine kp1 hs rfl ?_; intro s10
  clear s17
  have s20 := u20; clear u20
  have s25 := fa ?b19_5 a20 w20 25 (hd 5 25 rfl)
  replace e_w := e_w.trans x
  replace e_w2 := e_w2.trans x
  replace e_w15 := e_w15.trans x
  replace m15 := m15.tr hs rfl; clear hd hs x
  refine Q4s hr (by decide) tu22 Q3u rfl (Q00 e_w15 s20) s25 e_w2.size (by simp; omega) ?_; clear hr; intro a21 w21 hb hr hd hs
  revert s11; revert s9; revert s5; revert s4; revert s3; revert s2; refine kp6 hs rfl ?_; intro s2 s3 s4 s5 s9 s11
  revert s10; refine kp1 hs rfl ?_; intro s10
  clear s20 s25
  have s26 := hd
  replace e_w := e_w.below z_w_w2 hb
  replace e_w2 := e_w2.below (Nat.le_refl _) hb
  clear e_w15
  replace s11 := anyw (w2 := w21) s11
  replace s10 := anyw (w2 := w21) s10
  replace m15 := m15.tr hs rfl
  clear hd hs hb
  refine Q11 hr (Q03 s26) inferInstance ?_; clear hr; intro a22 w22 x hr hd hs
  revert s10; revert s11; revert s5; revert s4; revert s3; revert s2; refine kp6 hs rfl ?_; intro s2 s3 s4 s5 s11 s10
  clear s26
  have s9 := hd 9 rfl (by decide)
  replace e_w := e_w.trans x
  replace e_w2 := e_w2.trans x
  have e_w21 := x
  replace m15 := m15.tr hs rfl; clear hd hs x
  refine wpList_nil ?_
  refine Q0x ?_
  refine et ?_
  refine Q04 63 [[(11, none)], [(18, some 0)], [(19, some 1)]] [?b23_0, ?b23_1, ?b23_1] Q08 hr ?t23 ?o23 ?_
  case o23 =>
   apply oc0; intro A W hx hf
   exact Q01 (a0 := a22) (r0 hf)
   apply oc0; intro A W hx hf
   exact Q0o (p2 s11 e_w21 hx (q0 ?b23_0 A W 18 hf)) (ec A (.int .i64 1)) (by omega)
   apply oc0; intro A W hx hf
   exact Q03 (q0 ?b23_1 A W 19 hf)
   exact onn
  case t23 => exact inferInstance
  clear hr; intro a24 w24 x hr hd hs
  revert s9; revert s10; revert s5; revert s4; revert s3; revert s2; refine kp6 hs rfl ?_; intro s2 s3 s4 s5 s10 s9
  clear s11
  have s11 := fa ?b23_1 a24 w24 11 (hd 2 11 rfl)
  replace e_w := e_w.trans x
  replace e_w2 := e_w2.trans x
  replace e_w21 := e_w21.trans x
  have e_w22 := x
  replace m15 := m15.tr hs rfl; clear hd hs x
  refine et ?_
  refine ⟨(fun (i : Nat) => N - i) (i + 1), ?_, ?_⟩
  · (try dsimp only); omega
  refine ⟨i + 1, rfl, hr, m15, e_w, e_w2, (by first | assumption | omega), ?_, ?_⟩
  · rw [Q3n (by omega)]; exact (Q00 e_w22 s9)
  · first | exact s11 | exact Is.int s11 (by first | omega | simp) | exact Is.bool s11 (by first | omega | simp)
 have hlt : i = N := by simp at hlt; omega
 subst hlt
 refine wp_exit ?_
 refine Q0g ?_
 refine Q0g ?_
 refine Q1a ?_
 refine es ?_
 refine sq ?_
 refine Q04 63 [[]] [?b25_0] Q08 hr ?t25 ?o25 ?_
 case o25 =>
  apply oc0; intro A W hx hf
  exact Q05
  exact onn
 case t25 => exact inferInstance
 clear hr; intro a26 w26 x hr hd hs
 revert s10; revert s9; revert s5; revert s4; revert s3; revert s2; refine kp6 hs rfl ?_; intro s2 s3 s4 s5 s9 s10
 clear s11 s17
 have s12 := fa ?b25_0 a26 w26 12 (hd 0 12 rfl)
 replace e_w := e_w.trans x
 replace e_w2 := e_w2.trans x
 replace e_w15 := e_w15.trans x; clear hd hs x
 refine et ?_
 refine wp_block ?_
 refine Q14 (fun n A W => ∃ (j : Nat), n = i - j ∧ Fr 63 A ∧ Same Qck a26 A ∧ Ext w W ∧ Ext w2 W ∧ (j ≤ i) ∧ (OwnB w2.heap.size 5 (Sa.b.take i ++ Da.b.take j)) (A.eval (.tmp 9)) W ∧ (Is (.int .i64 (j : Int))) (A.eval (.tmp 12)) W) ?start27 ?_
 case start27 =>
  refine ⟨_, 0, rfl, hr, Same.rfl, e_w, e_w2, (by first | assumption | omega), ?_, ?_⟩
  · rw [List.take_zero, List.append_nil]; exact (Q00 e_w15 s9)
  · exact s12
 intro n27 a27 w27 hI
 clear e_w
 clear e_w2
 clear e_w15
 clear hr; obtain ⟨j, hn27, hr, hs, e_w, e_w2, hj, u9, u12⟩ := hI
 revert s10; revert s5; revert s4; revert s3; revert s2; refine kp5 hs rfl ?_; intro s2 s3 s4 s5 s10
 clear s9 s12
 have s9 := u9; clear u9
 have s12 := u12; clear u12
 replace s10 := anyw (w2 := w27) s10
 have m27 := hs; clear hs
 refine sq ?_
 refine sq ?_
 refine Q04 63 [[(12, none)], [(10, none)], [(27, some 0), (28, some 1)]] [?b28_0, ?b28_1, ?b28_2] Q08 hr ?t28 ?o28 ?_
 case o28 =>
  apply oc0; intro A W hx hf
  exact Q01 (a0 := a27) (r0 hf)
  apply oc0; intro A W hx hf
  exact Q01 (a0 := a27) (r0 hf)
  apply oc0; intro A W hx hf
  exact Q1b (p1 s12 hx (q0 ?b28_0 A W 27 hf)) (p1 s10 hx (q1 ?b28_1 A W 28 hf))
  exact onn
 case t28 => exact inferInstance
 clear hr; intro a29 w29 x hr hd hs
 revert s12; revert s9; revert s5; revert s4; revert s3; revert s2; refine kp6 hs rfl ?_; intro s2 s3 s4 s5 s9 s12
 revert s10; refine kp1 hs rfl ?_; intro s10
 have s29 := fa ?b28_2 a29 w29 29 (hd 2 29 rfl)
 replace e_w := e_w.trans x
 replace e_w2 := e_w2.trans x
 have e_w27 := x
 replace m27 := m27.tr hs rfl; clear hd hs x
 refine et ?_
 refine wp_cond_split (show _ = _ from s29) (fun hlt2 => ?_) (fun hlt2 => ?_)
 ·
  have hlt2 : j < i := by simp at hlt2; omega
  refine wp_skip ?_
  refine es ?_
  refine wp_block ?_
  refine Q06 (l := [_, _, _, _, _, _]) (rest := [_, _]) 63 [[(9, none)], [(12, none)], [(5, none)], [(34, some 2), (33, some 1)], [(35, some 3)], [(36, some 4)]] [?b31_0, ?b31_1, ?b31_2, ?b31_3, ?b31_4, ?b31_5] hr ?t31 ?o31 ?_
  case o31 =>
   apply oc0; intro A W hx hf
   exact Q01 (a0 := a29) (r0 hf)
   apply oc0; intro A W hx hf
   exact Q01 (a0 := a29) (r0 hf)
   apply oc0; intro A W hx hf
   exact Q2s tu25 (i := 1) rfl Q61 rfl (o2 s5 e_w2 hx (r0 hf))
   apply oc0; intro A W hx hf
   exact Q7b (_) tu23 Q0s (Qfk hD) hD (by decide) (q0 ?b31_2 A W 34 hf) (p2 s12 e_w27 hx (q1 ?b31_1 A W 33 hf)) (by first | omega | decide | (simp; done) | (simp; omega))
   apply oc0; intro A W hx hf
   exact Q1d tu5 rfl (q0 ?b31_3 A W 35 hf)
   apply oc0; intro A W hx hf
   exact Q21 [(.tmp 36)] [_] tu22 Q0s Q45 rfl rfl (by decide) (PartsOk.cons (q0 ?b31_4 A W 36 hf) (PartsOk.nil))
   exact onn
  case t31 => exact inferInstance
  clear hr; intro a32 w32 x hr hd hs
  have u32 := mv s9 (fa ?b31_0 a32 w32 32 (hd 0 32 rfl))
  revert s12; revert s9; revert s5; revert s4; revert s3; revert s2; refine kp6 hs rfl ?_; intro s2 s3 s4 s5 s9 s12
  revert s10; refine kp1 hs rfl ?_; intro s10
  clear s29
  have s32 := u32; clear u32
  have s37 := fa ?b31_5 a32 w32 37 (hd 5 37 rfl)
  replace e_w := e_w.trans x
  replace e_w2 := e_w2.trans x
  replace e_w27 := e_w27.trans x
  replace m27 := m27.tr hs rfl; clear hd hs x
  refine Q4s hr (by decide) tu22 Q3u rfl (Q00 e_w27 s32) s37 e_w2.size (by simp; omega) ?_; clear hr; intro a33 w33 hb hr hd hs
  revert s12; revert s9; revert s5; revert s4; revert s3; revert s2; refine kp6 hs rfl ?_; intro s2 s3 s4 s5 s9 s12
  revert s10; refine kp1 hs rfl ?_; intro s10
  clear s32 s37
  have s38 := hd
  replace e_w := e_w.below z_w_w2 hb
  replace e_w2 := e_w2.below (Nat.le_refl _) hb
  clear e_w27
  replace s12 := anyw (w2 := w33) s12
  replace s10 := anyw (w2 := w33) s10
  replace m27 := m27.tr hs rfl
  clear hd hs hb
  refine Q11 hr (Q03 s38) inferInstance ?_; clear hr; intro a34 w34 x hr hd hs
  revert s10; revert s12; revert s5; revert s4; revert s3; revert s2; refine kp6 hs rfl ?_; intro s2 s3 s4 s5 s12 s10
  clear s38
  have s9 := hd 9 rfl (by decide)
  replace e_w := e_w.trans x
  replace e_w2 := e_w2.trans x
  have e_w33 := x
  replace m27 := m27.tr hs rfl; clear hd hs x
  refine wpList_nil ?_
  refine Q0x ?_
  refine et ?_
  refine Q04 63 [[(12, none)], [(30, some 0)], [(31, some 1)]] [?b35_0, ?b35_1, ?b35_1] Q08 hr ?t35 ?o35 ?_
  case o35 =>
   apply oc0; intro A W hx hf
   exact Q01 (a0 := a34) (r0 hf)
   apply oc0; intro A W hx hf
   exact Q0o (p2 s12 e_w33 hx (q0 ?b35_0 A W 30 hf)) (ec A (.int .i64 1)) (by omega)
   apply oc0; intro A W hx hf
   exact Q03 (q0 ?b35_1 A W 31 hf)
   exact onn
  case t35 => exact inferInstance
  clear hr; intro a36 w36 x hr hd hs
  revert s9; revert s10; revert s5; revert s4; revert s3; revert s2; refine kp6 hs rfl ?_; intro s2 s3 s4 s5 s10 s9
  clear s12
  have s12 := fa ?b35_1 a36 w36 12 (hd 2 12 rfl)
  replace e_w := e_w.trans x
  replace e_w2 := e_w2.trans x
  replace e_w33 := e_w33.trans x
  have e_w34 := x
  replace m27 := m27.tr hs rfl; clear hd hs x
  refine et ?_
  refine ⟨(fun (j : Nat) => i - j) (j + 1), ?_, ?_⟩
  · (try dsimp only); omega
  refine ⟨j + 1, rfl, hr, m27, e_w, e_w2, (by first | assumption | omega), ?_, ?_⟩
  · rw [Q3n (l := Da.b) (by omega), ← List.append_assoc]; exact (Q00 e_w34 s9)
  · first | exact s12 | exact Is.int s12 (by first | omega | simp) | exact Is.bool s12 (by first | omega | simp)
 have hlt2 : j = i := by simp at hlt2; omega
 subst hlt2
 refine wp_exit ?_
 refine Q0g ?_
 refine Q0g ?_
 refine Q1a ?_
 refine es ?_
 refine sq ?_
 skip
 refine Q04 63 [[(4, none)], [(39, some 0)]] [?b37_0, ?b37_1] Q08 hr ?t37 ?o37 ?_
 case o37 =>
  apply oc0; intro A W hx hf
  exact Q2s tu25 (i := 0) rfl Q4r rfl (o2 s4 e_w2 hx (r0 hf))
  apply oc0; intro A W hx hf
  exact Q7j tu4 rfl (q0 ?b37_0 A W 39 hf)
  exact onn
 case t37 => exact inferInstance
 clear hr; intro a38 w38 x hr hd hs
 revert s9; revert s3; revert s2; refine kp3 hs rfl ?_; intro s2 s3 s9
 clear s4 s5 s12 s10 s29
 have s40 := fa ?b37_1 a38 w38 40 (hd 1 40 rfl)
 replace e_w := e_w.trans x
 replace e_w2 := e_w2.trans x
 replace e_w27 := e_w27.trans x; clear hd hs x
 refine et ?_
 refine wp_cond_split (show _ = _ from s40) (fun h6 => ?_) (fun h6 => ?_)
 ·
  skip
  refine sq ?_
  refine Q06 (l := [_, _, _, _, _, _, _, _, _, _]) (rest := [_, _]) 63 [[(9, none)], [(3, none)], [(42, some 1)], [(43, some 2)], [(3, none)], [(45, some 4)], [(46, some 5)], [(2, none)], [(48, some 7)], [(44, some 3), (47, some 6), (49, some 8)]] [?b40_0, ?b40_1, ?b40_2, ?b40_3, ?b40_4, ?b40_5, ?b40_6, ?b40_7, ?b40_8, ?b40_9] hr ?t40 ?o40 ?_
  case o40 =>
   apply oc0; intro A W hx hf
   exact Q01 (a0 := a38) (r0 hf)
   apply oc0; intro A W hx hf
   exact Q01 (a0 := a38) (r0 hf)
   apply oc0; intro A W hx hf
   exact Q4u (by decide) (p2 s3 e_w hx (q0 ?b40_1 A W 42 hf)) (ec A (.int .i64 256))
   apply oc0; intro A W hx hf
   exact Q15 tu3 tu5 (q0 ?b40_2 A W 43 hf)
   apply oc0; intro A W hx hf
   exact Q01 (a0 := a38) (r0 hf)
   apply oc0; intro A W hx hf
   exact Q4v (by decide) (p2 s3 e_w hx (q0 ?b40_4 A W 45 hf)) (ec A (.int .i64 256))
   apply oc0; intro A W hx hf
   exact Q15 tu3 tu5 (q0 ?b40_5 A W 46 hf)
   apply oc0; intro A W hx hf
   exact Q01 (a0 := a38) (r0 hf)
   apply oc0; intro A W hx hf
   exact Q15 tu3 tu5 (p2 s2 e_w hx (q0 ?b40_7 A W 48 hf))
   apply oc0; intro A W hx hf
   exact Q21 [(.const (.int .u8 0)), (.const (.int .u8 0)), (.tmp 44), (.tmp 47), (.const (.int .u8 0)), (.const (.int .u8 0)), (.const (.int .u8 0)), (.tmp 49)] [_, _, _, _, _, _, _, _] tu22 Q0s Q45 rfl rfl (by decide) (PartsOk.cons (show ByteIs 0 _ _ from rfl) (PartsOk.cons (show ByteIs 0 _ _ from rfl) (PartsOk.cons (q0 ?b40_3 A W 44 hf) (PartsOk.cons (q1 ?b40_6 A W 47 hf) (PartsOk.cons (show ByteIs 0 _ _ from rfl) (PartsOk.cons (show ByteIs 0 _ _ from rfl) (PartsOk.cons (show ByteIs 0 _ _ from rfl) (PartsOk.cons (q2 ?b40_8 A W 49 hf) (PartsOk.nil)))))))))
   exact onn
  case t40 => exact inferInstance
  clear hr; intro a41 w41 x hr hd hs
  have u41 := mv s9 (fa ?b40_0 a41 w41 41 (hd 0 41 rfl))
  clear s2 s3 s9 s40
  have s41 := u41; clear u41
  have s50 := fa ?b40_9 a41 w41 50 (hd 9 50 rfl)
  replace e_w := e_w.trans x
  replace e_w2 := e_w2.trans x
  replace e_w27 := e_w27.trans x; clear hd hs x
  refine Q4s hr (by decide) tu22 Q3u rfl (Q00 e_w27 s41) s50 e_w2.size (by simp; omega) ?_; clear hr; intro a42 w42 hb hr hd hs
  clear s41 s50
  have s51 := hd
  replace e_w := e_w.below z_w_w2 hb
  replace e_w2 := e_w2.below (Nat.le_refl _) hb
  clear e_w27
  clear hd hs hb
  refine Q11 hr (Q03 s51) inferInstance ?_; clear hr; intro a43 w43 x hr hd hs
  clear s51
  have s8 := hd 8 rfl (by decide)
  replace e_w := e_w.trans x
  replace e_w2 := e_w2.trans x; clear hd hs x
  refine wpList_nil ?_
  refine et ?_
  refine wp_ret ?_
  refine Q0e ?_
  refine Q0r Try.results55 hr e_w ?_
  first | exact OwnB.cast (OwnB.mono s8 (Nat.le_trans hB (by assumption))) (Qge h6 hN hA hD hn) | exact OwnB.cast (OwnB.mono s8 (Nat.le_trans hB (by assumption))) (Qgf h6 hN hn)
 skip
 refine wp_skip ?_
 refine es ?_
 refine Q06 (l := [_, _, _, _, _, _, _, _, _, _]) (rest := [_, _]) 63 [[(9, none)], [(2, none)], [(53, some 1)], [(3, none)], [(55, some 3)], [(56, some 4)], [(3, none)], [(58, some 6)], [(59, some 7)], [(54, some 2), (57, some 5), (60, some 8)]] [?b44_0, ?b44_1, ?b44_2, ?b44_3, ?b44_4, ?b44_5, ?b44_6, ?b44_7, ?b44_8, ?b44_9] hr ?t44 ?o44 ?_
 case o44 =>
  apply oc0; intro A W hx hf
  exact Q01 (a0 := a38) (r0 hf)
  apply oc0; intro A W hx hf
  exact Q01 (a0 := a38) (r0 hf)
  apply oc0; intro A W hx hf
  exact Q15 tu3 tu5 (p2 s2 e_w hx (q0 ?b44_1 A W 53 hf))
  apply oc0; intro A W hx hf
  exact Q01 (a0 := a38) (r0 hf)
  apply oc0; intro A W hx hf
  exact Q4u (by decide) (p2 s3 e_w hx (q0 ?b44_3 A W 55 hf)) (ec A (.int .i64 256))
  apply oc0; intro A W hx hf
  exact Q15 tu3 tu5 (q0 ?b44_4 A W 56 hf)
  apply oc0; intro A W hx hf
  exact Q01 (a0 := a38) (r0 hf)
  apply oc0; intro A W hx hf
  exact Q4v (by decide) (p2 s3 e_w hx (q0 ?b44_6 A W 58 hf)) (ec A (.int .i64 256))
  apply oc0; intro A W hx hf
  exact Q15 tu3 tu5 (q0 ?b44_7 A W 59 hf)
  apply oc0; intro A W hx hf
  exact Q21 [(.const (.int .u8 0)), (.tmp 54), (.tmp 57), (.tmp 60)] [_, _, _, _] tu22 Q0s Q45 rfl rfl (by decide) (PartsOk.cons (show ByteIs 0 _ _ from rfl) (PartsOk.cons (q0 ?b44_2 A W 54 hf) (PartsOk.cons (q1 ?b44_5 A W 57 hf) (PartsOk.cons (q2 ?b44_8 A W 60 hf) (PartsOk.nil)))))
  exact onn
 case t44 => exact inferInstance
 clear hr; intro a45 w45 x hr hd hs
 have u52 := mv s9 (fa ?b44_0 a45 w45 52 (hd 0 52 rfl))
 clear s2 s3 s9 s40
 have s52 := u52; clear u52
 have s61 := fa ?b44_9 a45 w45 61 (hd 9 61 rfl)
 replace e_w := e_w.trans x
 replace e_w2 := e_w2.trans x
 replace e_w27 := e_w27.trans x; clear hd hs x
 refine Q4s hr (by decide) tu22 Q3u rfl (Q00 e_w27 s52) s61 e_w2.size (by simp; omega) ?_; clear hr; intro a46 w46 hb hr hd hs
 clear s52 s61
 have s62 := hd
 replace e_w := e_w.below z_w_w2 hb
 replace e_w2 := e_w2.below (Nat.le_refl _) hb
 clear e_w27
 clear hd hs hb
 refine Q11 hr (Q03 s62) inferInstance ?_; clear hr; intro a47 w47 x hr hd hs
 clear s62
 have s8 := hd 8 rfl (by decide)
 replace e_w := e_w.trans x
 replace e_w2 := e_w2.trans x; clear hd hs x
 refine wpList_nil ?_
 refine et ?_
 refine wp_ret ?_
 refine Q0r Try.results55 hr e_w ?_
 first | exact OwnB.cast (OwnB.mono s8 (Nat.le_trans hB (by assumption))) (Qge h6 hN hA hD hn) | exact OwnB.cast (OwnB.mono s8 (Nat.le_trans hB (by assumption))) (Qgf h6 hN hn)

end Go.Proofs.Ytlmdboaghojgiaa
