import Derived.Test.YtpjpfmnnefgnbaaFacts
import Derived.Test.YtpjpfmnnefgnbaaS06
import Derived.Test.YtpjpfmnnefgnbaaW
namespace Go.Proofs.Ytpjpfmnnefgnbaa
open Go.RowKit
set_option linter.unusedVariables false
set_option linter.unusedSimpArgs false
set_option maxRecDepth 4000
theorem c_ring {x0 x1 : Value} {w : World} {a b : Int} (h0 : (Is (.int .u32 a)) x0 w) (h1 : (Is (.int .u32 b)) x1 w) (hab : (0 ≤ a ∧ a ≤ 65535) ∧ 0 ≤ b ∧ b ≤ 65535) :
    Calls Try.prog 91 #[x0, x1] w (Ret (Is (.int .u32 (ring a b))) w) := by
 refine enter Try.func91 rfl Try.ntmps91 (k := 2) rfl (by decide) (fun a0 hr hargs => ?_)
 have s0 := sarg h0 (hargs 0 (by decide))
 have s1 := sarg h1 (hargs 1 (by decide))
 clear hargs
 refine sq ?_
 refine wp_reg 14 [[]] [?b1_0] mixed hr ?t1 ?o1 ?_
 case o1 =>
  apply oc0; intro A W hx hf
  exact ok_assignc
  exact onn
 case t1 => exact inferInstance
 clear hr; intro a2 w2 x hr hd hs
 revert s1; revert s0; refine kp2 hs rfl ?_; intro s0 s1
 have e_w := x; clear hd hs x
 refine es ?_
 refine wp_reg 14 [[(0, none)], [(1, none)], [(6, some 0), (7, some 1)], [(8, some 2)]] [?b3_0, ?b3_1, ?b3_2, ?b3_2] mixed hr ?t3 ?o3 ?_
 case o3 =>
  apply oc0; intro A W hx hf
  exact ok_movE (a0 := a2) (r0 hf)
  apply oc0; intro A W hx hf
  exact ok_movE (a0 := a2) (r0 hf)
  apply oc0; intro A W hx hf
  exact ok_add (p2 s0 e_w hx (q0 ?b3_0 A W 6 hf)) (p2 s1 e_w hx (q1 ?b3_1 A W 7 hf))
  apply oc0; intro A W hx hf
  exact ok_assign (q0 ?b3_2 A W 8 hf)
  exact onn
 case t3 => exact inferInstance
 clear hr; intro a4 w4 x hr hd hs
 clear s0 s1
 have s5 := fa ?b3_2 a4 w4 5 (hd 3 5 rfl)
 replace e_w := e_w.trans x; clear hd hs x
 refine es ?_
 refine wp_reg 14 [[(5, none)], [(9, some 0)], [(5, none)], [(11, some 2)], [(10, some 1), (12, some 3)], [(13, some 4)]] [?b5_0, ?b5_1, ?b5_2, ?b5_3, ?b5_4, ?b5_4] mixed hr ?t5 ?o5 ?_
 case o5 =>
  apply oc0; intro A W hx hf
  exact ok_movE (a0 := a4) (r0 hf)
  apply oc0; intro A W hx hf
  exact ok_andb (p1 s5 hx (q0 ?b5_0 A W 9 hf)) (ec A (.int .u32 65535))
  apply oc0; intro A W hx hf
  exact ok_movE (a0 := a4) (r0 hf)
  apply oc0; intro A W hx hf
  exact ok_shr 16 (by decide) (p1 s5 hx (q0 ?b5_2 A W 11 hf)) (ec A (.int .u64 16))
  apply oc0; intro A W hx hf
  exact ok_add (q0 ?b5_1 A W 10 hf) (q1 ?b5_3 A W 12 hf)
  apply oc0; intro A W hx hf
  exact ok_assign (q0 ?b5_4 A W 13 hf)
  exact onn
 case t5 => exact inferInstance
 clear hr; intro a6 w6 x hr hd hs
 clear s5
 have s4 := fa ?b5_4 a6 w6 4 (hd 5 4 rfl)
 replace e_w := e_w.trans x; clear hd hs x
 refine et ?_
 refine wp_ret ?_
 refine ret_tmp Try.results91 hr e_w ?_
 exact Is.int s4 (ring_expr hab)

def D_c_total_0 : List Tmp := [3, 4, 6, 8, 9, 12, 13, 14, 15, 16, 17, 18, 19, 20, 21, 22, 23, 24, 25, 26, 27, 28, 29, 30, 31, 32, 33, 34]
def D_c_total_1 : List Tmp := [3, 4, 8, 9, 18, 19, 20, 21, 22, 23, 24, 25, 26, 27, 28, 29, 30, 31, 32, 33]
def D_c_total_2 : List Tmp := [9, 26, 27]
theorem c_total {x0 : Value} {w : World} {ls : List (List UInt8)} (h0 : (Bss ls) x0 w)  :
    Calls Try.prog 87 #[x0] w (Ret (Is (.int .u32 (norm (wsum ls.flatten)))) w) := by
 have hlen : ls.length ≤ 9223372036854775807 := Bss.len_le h0
 refine enter Try.func87 rfl Try.ntmps87 (k := 1) rfl (by decide) (fun a0 hr hargs => ?_)
 have s0 := sarg h0 (hargs 0 (by decide))
 clear hargs
 refine sq ?_
 refine wp_reg 36 [[]] [?b1_0] mixed hr ?t1 ?o1 ?_
 case o1 =>
  apply oc0; intro A W hx hf
  exact ok_assignc
  exact onn
 case t1 => exact inferInstance
 clear hr; intro a2 w2 x hr hd hs
 revert s0; refine kp1 hs rfl ?_; intro s0
 have e_w := x; clear hd hs x
 refine es ?_
 refine wp_reg 36 [[], []] [?b3_0, ?b3_1] mixed hr ?t3 ?o3 ?_
 case o3 =>
  apply oc0; intro A W hx hf
  exact ok_assignc
  apply oc0; intro A W hx hf
  exact ok_assignc
  exact onn
 case t3 => exact inferInstance
 clear hr; intro a4 w4 x hr hd hs
 revert s0; refine kp1 hs rfl ?_; intro s0
 have s3 := fa ?b3_0 a4 w4 3 (hd 0 3 rfl)
 have s4 := fa ?b3_1 a4 w4 4 (hd 1 4 rfl)
 replace e_w := e_w.trans x; clear hd hs x
 refine es ?_
 refine sq ?_
 refine wp_reg 36 [[(0, none)], [(10, some 0)], []] [?b5_0, ?b5_1, ?b5_2] mixed hr ?t5 ?o5 ?_
 case o5 =>
  apply oc0; intro A W hx hf
  exact ok_movE (a0 := a4) (r0 hf)
  apply oc0; intro A W hx hf
  exact ok_len_bss tu107 (p2 s0 e_w hx (q0 ?b5_0 A W 10 hf))
  apply oc0; intro A W hx hf
  exact ok_movec
  exact onn
 case t5 => exact inferInstance
 clear hr; intro a6 w6 x hr hd hs
 have u10 := mv s0 (fa ?b5_0 a6 w6 10 (hd 0 10 rfl))
 revert s4; revert s3; refine kp2 hs rfl ?_; intro s3 s4
 clear s0
 have s10 := u10; clear u10
 have s11 := fa ?b5_1 a6 w6 11 (hd 1 11 rfl)
 have s12 := fa ?b5_2 a6 w6 12 (hd 2 12 rfl)
 replace e_w := e_w.trans x
 have e_w4 := x; clear hd hs x
 refine et ?_
 refine wp_block ?_
 refine wp_loop_inv (fun n A W => ∃ (i : Nat), n = ls.length - i ∧ Fr 36 A ∧ Same D_c_total_0 a6 A ∧ Ext w W ∧ Ext w6 W ∧ (i ≤ ls.length) ∧ (Is (.int .u32 (norm (wsum (ls.take i).flatten)))) (A.eval (.tmp 3)) W ∧ (Is (.bool (decide ((ls.take i).flatten.length % 2 = 1)))) (A.eval (.tmp 4)) W ∧ (Is (.int .i64 (i : Int))) (A.eval (.tmp 12)) W) ?start7 ?_
 case start7 =>
  refine ⟨_, 0, rfl, hr, Same.rfl, e_w, (Ext.refl _), (by first | assumption | omega), ?_, ?_, ?_⟩
  · exact Is.int (later e_w4 s3) (by simp [wsum, norm])
  · exact Is.bool (later e_w4 s4) (by simp)
  · exact s12
 intro n7 a7 w7 hI
 clear e_w
 clear e_w4
 clear hr; obtain ⟨i, hn7, hr, hs, e_w, e_w6, hi, u3, u4, u12⟩ := hI
 revert s11; revert s10; refine kp2 hs rfl ?_; intro s10 s11
 clear s3 s4 s12
 have s3 := u3; clear u3
 have s4 := u4; clear u4
 have s12 := u12; clear u12
 have m7 := hs; clear hs
 refine sq ?_
 refine wp_reg 36 [[(12, none), (11, none)]] [?b8_0] mixed hr ?t8 ?o8 ?_
 case o8 =>
  apply oc0; intro A W hx hf
  exact ok_lss (o1 s12 hx (r0 hf)) (o2 s11 e_w6 hx (r1 hf))
  exact onn
 case t8 => exact inferInstance
 clear hr; intro a9 w9 x hr hd hs
 revert s12; revert s4; revert s3; revert s11; revert s10; refine kp5 hs rfl ?_; intro s10 s11 s3 s4 s12
 have s13 := fa ?b8_0 a9 w9 13 (hd 0 13 rfl)
 replace e_w := e_w.trans x
 replace e_w6 := e_w6.trans x
 have e_w7 := x
 replace m7 := m7.tr hs rfl; clear hd hs x
 refine es ?_
 refine wp_cond_split (show _ = _ from s13) (fun hlt => ?_) (fun hlt => ?_)
 ·
  have hlt : i < ls.length := by simp at hlt; omega
  refine wp_skip ?_
  refine es ?_
  refine wp_block ?_
  refine sq ?_
  refine wp_reg 36 [[(10, none), (12, none)], [(14, some 0)], [(15, some 1)]] [?b11_0, ?b11_1, ?b11_1] mixed hr ?t11 ?o11 ?_
  case o11 =>
   apply oc0; intro A W hx hf
   exact ok_index_bss (_) tu107 size22 (o2 s10 e_w hx (r0 hf)) (o2 s12 e_w7 hx (r1 hf)) (by first | omega | decide | (simp; done) | (simp; omega))
   apply oc0; intro A W hx hf
   exact ok_loadp tu22 rfl (q0 ?b11_0 A W 14 hf)
   apply oc0; intro A W hx hf
   exact ok_assign (q0 ?b11_1 A W 15 hf)
   exact onn
  case t11 => exact inferInstance
  clear hr; intro a12 w12 x hr hd hs
  revert s12; revert s4; revert s3; revert s11; revert s10; refine kp5 hs rfl ?_; intro s10 s11 s3 s4 s12
  clear s13
  have s6 := fa ?b11_1 a12 w12 6 (hd 2 6 rfl)
  replace e_w := e_w.trans x
  replace e_w6 := e_w6.trans x
  replace e_w7 := e_w7.trans x
  replace m7 := m7.tr hs rfl; clear hd hs x
  refine es ?_
  refine wp_reg 36 [[(6, none)], [(16, some 0)], []] [?b13_0, ?b13_1, ?b13_2] mixed hr ?t13 ?o13 ?_
  case o13 =>
   apply oc0; intro A W hx hf
   exact ok_movE (a0 := a12) (r0 hf)
   apply oc0; intro A W hx hf
   exact ok_len_bs tu22 (p1 s6 hx (q0 ?b13_0 A W 16 hf))
   apply oc0; intro A W hx hf
   exact ok_movec
   exact onn
  case t13 => exact inferInstance
  clear hr; intro a14 w14 x hr hd hs
  have u16 := mv s6 (fa ?b13_0 a14 w14 16 (hd 0 16 rfl))
  revert s12; revert s4; revert s3; revert s11; revert s10; refine kp5 hs rfl ?_; intro s10 s11 s3 s4 s12
  clear s6
  have s16 := u16; clear u16
  have s17 := fa ?b13_1 a14 w14 17 (hd 1 17 rfl)
  have s18 := fa ?b13_2 a14 w14 18 (hd 2 18 rfl)
  replace e_w := e_w.trans x
  replace e_w6 := e_w6.trans x
  replace e_w7 := e_w7.trans x
  have e_w12 := x
  replace m7 := m7.tr hs rfl; clear hd hs x
  refine et ?_
  refine wp_block ?_
  refine wp_loop_inv (fun n A W => ∃ (j : Nat), n = ls[i].length - j ∧ Fr 36 A ∧ Same D_c_total_1 a14 A ∧ Ext w W ∧ Ext w6 W ∧ Ext w7 W ∧ Ext w12 W ∧ Ext w14 W ∧ (j ≤ ls[i].length) ∧ (Is (.int .u32 (norm (wsum ((ls.take i).flatten ++ ls[i].take j))))) (A.eval (.tmp 3)) W ∧ (Is (.bool (decide (((ls.take i).flatten ++ ls[i].take j).length % 2 = 1)))) (A.eval (.tmp 4)) W ∧ (Is (.int .i64 (j : Int))) (A.eval (.tmp 18)) W) ?start15 ?_
  case start15 =>
   refine ⟨_, 0, rfl, hr, Same.rfl, e_w, e_w6, e_w7, e_w12, (Ext.refl _), (by first | assumption | omega), ?_, ?_, ?_⟩
   · exact Is.int (later e_w7 s3) (by simp)
   · exact Is.bool (later e_w7 s4) (by simp)
   · exact s18
  intro n15 a15 w15 hI
  clear e_w
  clear e_w6
  clear e_w7
  clear e_w12
  clear hr; obtain ⟨j, hn15, hr, hs, e_w, e_w6, e_w7, e_w12, e_w14, hj, u3, u4, u18⟩ := hI
  revert s17; revert s16; revert s12; revert s11; revert s10; refine kp5 hs rfl ?_; intro s10 s11 s12 s16 s17
  clear s3 s4 s18
  have s3 := u3; clear u3
  have s4 := u4; clear u4
  have s18 := u18; clear u18
  replace m7 := m7.tr hs rfl
  have hl := Bs.len_le s16
  have m15 := hs; clear hs
  refine sq ?_
  refine wp_reg 36 [[(18, none), (17, none)]] [?b16_0] mixed hr ?t16 ?o16 ?_
  case o16 =>
   apply oc0; intro A W hx hf
   exact ok_lss (o1 s18 hx (r0 hf)) (o2 s17 e_w14 hx (r1 hf))
   exact onn
  case t16 => exact inferInstance
  clear hr; intro a17 w17 x hr hd hs
  revert s3; revert s17; revert s16; revert s12; revert s11; revert s10; refine kp6 hs rfl ?_; intro s10 s11 s12 s16 s17 s3
  revert s18; revert s4; refine kp2 hs rfl ?_; intro s4 s18
  have s19 := fa ?b16_0 a17 w17 19 (hd 0 19 rfl)
  replace e_w := e_w.trans x
  replace e_w6 := e_w6.trans x
  replace e_w7 := e_w7.trans x
  replace e_w12 := e_w12.trans x
  replace e_w14 := e_w14.trans x
  have e_w15 := x
  replace m7 := m7.tr hs rfl
  replace m15 := m15.tr hs rfl; clear hd hs x
  refine es ?_
  refine wp_cond_split (show _ = _ from s19) (fun hc => ?_) (fun hc => ?_)
  ·
   have hc : j < ls[i].length := by simp at hc; omega
   refine wp_skip ?_
   refine es ?_
   refine wp_block ?_
   refine sq ?_
   refine wp_reg 36 [[(16, none), (18, none)], [(20, some 0)], [(21, some 1)]] [?b19_0, ?b19_1, ?b19_1] mixed hr ?t19 ?o19 ?_
   case o19 =>
    apply oc0; intro A W hx hf
    exact ok_index_bs (_) tu22 size5 (o2 s16 e_w12 hx (r0 hf)) (o2 s18 e_w15 hx (r1 hf)) (by first | omega | decide | (simp; done) | (simp; omega))
    apply oc0; intro A W hx hf
    exact ok_loadp tu5 rfl (q0 ?b19_0 A W 20 hf)
    apply oc0; intro A W hx hf
    exact ok_assign (q0 ?b19_1 A W 21 hf)
    exact onn
   case t19 => exact inferInstance
   clear hr; intro a20 w20 x hr hd hs
   revert s3; revert s17; revert s16; revert s12; revert s11; revert s10; refine kp6 hs rfl ?_; intro s10 s11 s12 s16 s17 s3
   revert s18; revert s4; refine kp2 hs rfl ?_; intro s4 s18
   clear s19
   have s8 := fa ?b19_1 a20 w20 8 (hd 2 8 rfl)
   replace e_w := e_w.trans x
   replace e_w6 := e_w6.trans x
   replace e_w7 := e_w7.trans x
   replace e_w12 := e_w12.trans x
   replace e_w14 := e_w14.trans x
   replace e_w15 := e_w15.trans x
   replace m7 := m7.tr hs rfl
   replace m15 := m15.tr hs rfl; clear hd hs x
   refine es ?_
   refine wp_reg 36 [[(8, none)], [(22, some 0)], [(23, some 1)]] [?b21_0, ?b21_1, ?b21_1] mixed hr ?t21 ?o21 ?_
   case o21 =>
    apply oc0; intro A W hx hf
    exact ok_movE (a0 := a20) (r0 hf)
    apply oc0; intro A W hx hf
    exact ok_convB tu5 tu125 (by decide) (p1 s8 hx (q0 ?b21_0 A W 22 hf))
    apply oc0; intro A W hx hf
    exact ok_assign (q0 ?b21_1 A W 23 hf)
    exact onn
   case t21 => exact inferInstance
   clear hr; intro a22 w22 x hr hd hs
   revert s3; revert s17; revert s16; revert s12; revert s11; revert s10; refine kp6 hs rfl ?_; intro s10 s11 s12 s16 s17 s3
   revert s18; revert s4; refine kp2 hs rfl ?_; intro s4 s18
   clear s8
   have s9 := fa ?b21_1 a22 w22 9 (hd 2 9 rfl)
   replace e_w := e_w.trans x
   replace e_w6 := e_w6.trans x
   replace e_w7 := e_w7.trans x
   replace e_w12 := e_w12.trans x
   replace e_w14 := e_w14.trans x
   replace e_w15 := e_w15.trans x
   replace m7 := m7.tr hs rfl
   replace m15 := m15.tr hs rfl; clear hd hs x
   refine es ?_
   refine sq ?_
   refine wp_reg 36 [[(4, none)], [(24, some 0)]] [?b23_0, ?b23_1] mixed hr ?t23 ?o23 ?_
   case o23 =>
    apply oc0; intro A W hx hf
    exact ok_movE (a0 := a22) (r0 hf)
    apply oc0; intro A W hx hf
    exact ok_not (p2 s4 e_w15 hx (q0 ?b23_0 A W 24 hf))
    exact onn
   case t23 => exact inferInstance
   clear hr; intro a24 w24 x hr hd hs
   revert s3; revert s17; revert s16; revert s12; revert s11; revert s10; refine kp6 hs rfl ?_; intro s10 s11 s12 s16 s17 s3
   revert s9; revert s18; revert s4; refine kp3 hs rfl ?_; intro s4 s18 s9
   have s25 := fa ?b23_1 a24 w24 25 (hd 1 25 rfl)
   replace e_w := e_w.trans x
   replace e_w6 := e_w6.trans x
   replace e_w7 := e_w7.trans x
   replace e_w12 := e_w12.trans x
   replace e_w14 := e_w14.trans x
   replace e_w15 := e_w15.trans x
   have e_w22 := x
   replace m7 := m7.tr hs rfl
   replace m15 := m15.tr hs rfl; clear hd hs x
   refine et ?_
   refine wp_cut (fun A W => Fr 36 A ∧ Same D_c_total_2 a24 A ∧ Ext w W ∧ Ext w6 W ∧ Ext w7 W ∧ Ext w12 W ∧ Ext w14 W ∧ Ext w15 W ∧ (Is (.int .u32 (if ((ls.take i).flatten ++ ls[i].take j).length % 2 = 1 then (ls[i][j].toNat : Int) else 256 * (ls[i][j].toNat : Int)))) (A.eval (.tmp 9)) W) ?cut25 ?_
   case cut25 =>
    have m25 : Same D_c_total_2 a24 a24 := Same.rfl
    refine wp_cond_split (show _ = _ from s25) (fun ho => ?_) (fun ho => ?_)
    ·
     simp only [Bool.not_eq_true', decide_eq_false_iff_not] at ho
     refine wp_reg 36 [[(9, none)], [(26, some 0)], [(27, some 1)]] [?b27_0, ?b27_1, ?b27_1] mixed hr ?t27 ?o27 ?_
     case o27 =>
      apply oc0; intro A W hx hf
      exact ok_movE (a0 := a24) (r0 hf)
      apply oc0; intro A W hx hf
      exact ok_shl 8 (by decide) (p2 s9 e_w22 hx (q0 ?b27_0 A W 26 hf)) (ec A (.int .u64 8))
      apply oc0; intro A W hx hf
      exact ok_assign (q0 ?b27_1 A W 27 hf)
      exact onn
     case t27 => exact inferInstance
     clear hr; intro a28 w28 x hr hd hs
     revert s3; revert s17; revert s16; revert s12; revert s11; revert s10; refine kp6 hs rfl ?_; intro s10 s11 s12 s16 s17 s3
     revert s18; revert s4; refine kp2 hs rfl ?_; intro s4 s18
     clear s9 s25
     have s9 := fa ?b27_1 a28 w28 9 (hd 2 9 rfl)
     replace e_w := e_w.trans x
     replace e_w6 := e_w6.trans x
     replace e_w7 := e_w7.trans x
     replace e_w12 := e_w12.trans x
     replace e_w14 := e_w14.trans x
     replace e_w15 := e_w15.trans x
     clear e_w22
     replace m7 := m7.tr hs rfl
     replace m15 := m15.tr hs rfl
     replace m25 := m25.tr hs rfl; clear hd hs x
     refine et ?_
     refine ⟨hr, m25, e_w, e_w6, e_w7, e_w12, e_w14, e_w15, ?_⟩
     · have hb := norm_bd (wsum ((ls.take i).flatten ++ ls[i].take j)); have hz := byte_bd ls[i][j]; exact Is.int s9 (by (first | rw [if_pos ho] | rw [if_neg ho]); try (rw [show ((2 : Int) ^ 8) = 256 from rfl, IntWalk.u32_in _ (by omega)]; omega))
    simp only [Bool.not_eq_false', decide_eq_true_eq] at ho
    refine wp_skip ?_
    refine et ?_
    refine ⟨hr, m25, e_w, e_w6, e_w7, e_w12, e_w14, e_w15, ?_⟩
    · have hb := norm_bd (wsum ((ls.take i).flatten ++ ls[i].take j)); have hz := byte_bd ls[i][j]; exact Is.int (later e_w22 s9) (by (first | rw [if_pos ho] | rw [if_neg ho]); try (rw [show ((2 : Int) ^ 8) = 256 from rfl, IntWalk.u32_in _ (by omega)]; omega))
   intro a25 w25 hI
   clear e_w
   clear e_w6
   clear e_w7
   clear e_w12
   clear e_w14
   clear e_w15
   clear e_w22
   clear hr; obtain ⟨hr, hs, e_w, e_w6, e_w7, e_w12, e_w14, e_w15, u9⟩ := hI
   revert s3; revert s17; revert s16; revert s12; revert s11; revert s10; refine kp6 hs rfl ?_; intro s10 s11 s12 s16 s17 s3
   revert s18; revert s4; refine kp2 hs rfl ?_; intro s4 s18
   clear s9 s25
   have s9 := u9; clear u9
   replace m7 := m7.tr hs rfl
   replace m15 := m15.tr hs rfl
   clear hs
   refine sq ?_
   refine wp_reg 36 [[(3, none)], [(9, none)], [(28, some 0), (29, some 1)], [(30, some 2)]] [?b29_0, ?b29_1, ?b29_2, ?b29_2] mixed hr ?t29 ?o29 ?_
   case o29 =>
    apply oc0; intro A W hx hf
    exact ok_movE (a0 := a25) (r0 hf)
    apply oc0; intro A W hx hf
    exact ok_movE (a0 := a25) (r0 hf)
    apply oc0; intro A W hx hf
    exact ok_call2 body91 (c_ring (p2 s3 e_w15 hx (q0 ?b29_0 A W 28 hf)) (p1 s9 hx (q1 ?b29_1 A W 29 hf)) (by have hb := norm_bd (wsum ((ls.take i).flatten ++ ls[i].take j)); have hz := byte_bd ls[i][j]; refine ⟨hb, ?_⟩; split <;> omega))
    apply oc0; intro A W hx hf
    exact ok_assign (q0 ?b29_2 A W 30 hf)
    exact onn
   case t29 => exact inferInstance
   clear hr; intro a30 w30 x hr hd hs
   revert s4; revert s17; revert s16; revert s12; revert s11; revert s10; refine kp6 hs rfl ?_; intro s10 s11 s12 s16 s17 s4
   revert s18; refine kp1 hs rfl ?_; intro s18
   clear s3 s9
   have s3 := fa ?b29_2 a30 w30 3 (hd 3 3 rfl)
   replace e_w := e_w.trans x
   replace e_w6 := e_w6.trans x
   replace e_w7 := e_w7.trans x
   replace e_w12 := e_w12.trans x
   replace e_w14 := e_w14.trans x
   replace e_w15 := e_w15.trans x
   replace m7 := m7.tr hs rfl
   replace m15 := m15.tr hs rfl; clear hd hs x
   refine et ?_
   refine wp_reg 36 [[(4, none)], [(31, some 0)], [(32, some 1)]] [?b31_0, ?b31_1, ?b31_1] mixed hr ?t31 ?o31 ?_
   case o31 =>
    apply oc0; intro A W hx hf
    exact ok_movE (a0 := a30) (r0 hf)
    apply oc0; intro A W hx hf
    exact ok_not (p2 s4 e_w15 hx (q0 ?b31_0 A W 31 hf))
    apply oc0; intro A W hx hf
    exact ok_assign (q0 ?b31_1 A W 32 hf)
    exact onn
   case t31 => exact inferInstance
   clear hr; intro a32 w32 x hr hd hs
   revert s18; revert s17; revert s16; revert s12; revert s11; revert s10; refine kp6 hs rfl ?_; intro s10 s11 s12 s16 s17 s18
   revert s3; refine kp1 hs rfl ?_; intro s3
   clear s4
   have s4 := fa ?b31_1 a32 w32 4 (hd 2 4 rfl)
   replace e_w := e_w.trans x
   replace e_w6 := e_w6.trans x
   replace e_w7 := e_w7.trans x
   replace e_w12 := e_w12.trans x
   replace e_w14 := e_w14.trans x
   replace e_w15 := e_w15.trans x
   have e_w30 := x
   replace m7 := m7.tr hs rfl
   replace m15 := m15.tr hs rfl; clear hd hs x
   refine blk_normal ?_
   refine et ?_
   refine wp_reg 36 [[(18, none)], [(33, some 0)]] [?b33_0, ?b33_0] mixed hr ?t33 ?o33 ?_
   case o33 =>
    apply oc0; intro A W hx hf
    exact ok_addI (o2 s18 e_w15 hx (r0 hf)) (ec A (.int .i64 1)) (by omega)
    apply oc0; intro A W hx hf
    exact ok_move (q0 ?b33_0 A W 33 hf)
    exact onn
   case t33 => exact inferInstance
   clear hr; intro a34 w34 x hr hd hs
   revert s3; revert s17; revert s16; revert s12; revert s11; revert s10; refine kp6 hs rfl ?_; intro s10 s11 s12 s16 s17 s3
   revert s4; refine kp1 hs rfl ?_; intro s4
   clear s18
   have s18 := fa ?b33_0 a34 w34 18 (hd 1 18 rfl)
   replace e_w := e_w.trans x
   replace e_w6 := e_w6.trans x
   replace e_w7 := e_w7.trans x
   replace e_w12 := e_w12.trans x
   replace e_w14 := e_w14.trans x
   clear e_w15
   replace e_w30 := e_w30.trans x
   have e_w32 := x
   replace m7 := m7.tr hs rfl
   replace m15 := m15.tr hs rfl; clear hd hs x
   refine et ?_
   refine ⟨(fun (j : Nat) => ls[i].length - j) (j + 1), ?_, ?_⟩
   · (try dsimp only); omega
   refine ⟨j + 1, rfl, hr, m15, e_w, e_w6, e_w7, e_w12, e_w14, (by first | assumption | omega), ?_, ?_, ?_⟩
   · exact Is.int (later e_w30 s3) (tot_step hc _ rfl)
   · exact Is.bool (later e_w32 s4) (odd_step hc)
   · first | exact s18 | exact Is.int s18 (by first | omega | simp) | exact Is.bool s18 (by first | omega | simp)
  have hc : j = ls[i].length := by simp at hc; omega
  refine wp_exit ?_
  refine then_exit ?_
  refine then_exit ?_
  refine blk_exit ?_
  refine blk_normal ?_
  refine et ?_
  refine wp_reg 36 [[(12, none)], [(34, some 0)]] [?b35_0, ?b35_0] mixed hr ?t35 ?o35 ?_
  case o35 =>
   apply oc0; intro A W hx hf
   exact ok_addI (o2 s12 e_w7 hx (r0 hf)) (ec A (.int .i64 1)) (by omega)
   apply oc0; intro A W hx hf
   exact ok_move (q0 ?b35_0 A W 34 hf)
   exact onn
  case t35 => exact inferInstance
  clear hr; intro a36 w36 x hr hd hs
  revert s4; revert s3; revert s11; revert s10; refine kp4 hs rfl ?_; intro s10 s11 s3 s4
  clear s12 s16 s17 s18 s19
  have s12 := fa ?b35_0 a36 w36 12 (hd 1 12 rfl)
  replace e_w := e_w.trans x
  replace e_w6 := e_w6.trans x
  clear e_w7
  clear e_w12
  clear e_w14
  replace e_w15 := e_w15.trans x
  replace m7 := m7.tr hs rfl; clear hd hs x
  refine et ?_
  refine ⟨(fun (i : Nat) => ls.length - i) (i + 1), ?_, ?_⟩
  · (try dsimp only); omega
  refine ⟨i + 1, rfl, hr, m7, e_w, e_w6, (by first | assumption | omega), ?_, ?_, ?_⟩
  · exact Is.int (later e_w15 s3) (by rw [tot_next hlt, hc, List.take_length])
  · exact Is.bool (later e_w15 s4) (by rw [tot_next hlt, hc, List.take_length])
  · first | exact s12 | exact Is.int s12 (by first | omega | simp) | exact Is.bool s12 (by first | omega | simp)
 have hlt : i = ls.length := by simp at hlt; omega
 refine wp_exit ?_
 refine then_exit ?_
 refine then_exit ?_
 refine blk_exit ?_
 refine es ?_
 refine wp_reg 36 [[(3, none)], [(35, some 0)]] [?b37_0, ?b37_0] mixed hr ?t37 ?o37 ?_
 case o37 =>
  apply oc0; intro A W hx hf
  exact ok_movE (a0 := a9) (r0 hf)
  apply oc0; intro A W hx hf
  exact ok_assign (q0 ?b37_0 A W 35 hf)
  exact onn
 case t37 => exact inferInstance
 clear hr; intro a38 w38 x hr hd hs
 have u2 := mv s3 (fa ?b37_0 a38 w38 2 (hd 1 2 rfl))
 clear s10 s11 s3 s4 s12 s13
 have s2 := u2; clear u2
 replace e_w := e_w.trans x
 clear e_w6
 replace e_w7 := e_w7.trans x; clear hd hs x
 refine et ?_
 refine wp_ret ?_
 refine ret_tmp Try.results87 hr e_w ?_
 exact Is.int (later e_w7 s2) (by rw [hlt, List.take_length])

def D_c_grow_0 : List Tmp := [0, 17, 18, 19, 20, 21, 22, 23, 24, 25]
theorem c_grow {x0 x1 : Value} {w : World} {n B : Nat} (h0 : (Is (.slice none 0 0)) x0 w) (h1 : (Is (.int .i64 (n : Int))) x1 w) (hB : B ≤ w.heap.size) (hn : n ≤ 1000000000000) :
    Calls Try.prog 64 #[x0, x1] w (Ret (OwnB B 5 []) w) := by
 refine enter Try.func64 rfl Try.ntmps64 (k := 2) rfl (by decide) (fun a0 hr hargs => ?_)
 have s0 := sarg h0 (hargs 0 (by decide))
 have s1 := sarg h1 (hargs 1 (by decide))
 clear hargs
 refine sq ?_
 refine wp_reg 27 [[]] [?b1_0] mixed hr ?t1 ?o1 ?_
 case o1 =>
  apply oc0; intro A W hx hf
  exact ok_assignv (Bs []) (fun _ => bs_nil)
  exact onn
 case t1 => exact inferInstance
 clear hr; intro a2 w2 x hr hd hs
 revert s1; revert s0; refine kp2 hs rfl ?_; intro s0 s1
 have e_w := x; clear hd hs x
 refine es ?_
 refine sq ?_
 refine wp_reg 27 [[(1, none)], [(5, some 0)]] [?b3_0, ?b3_1] mixed hr ?t3 ?o3 ?_
 case o3 =>
  apply oc0; intro A W hx hf
  exact ok_movE (a0 := a2) (r0 hf)
  apply oc0; intro A W hx hf
  exact ok_lss (p2 s1 e_w hx (q0 ?b3_0 A W 5 hf)) (ec A (.int .i64 0))
  exact onn
 case t3 => exact inferInstance
 clear hr; intro a4 w4 x hr hd hs
 revert s1; revert s0; refine kp2 hs rfl ?_; intro s0 s1
 have s6 := fa ?b3_1 a4 w4 6 (hd 1 6 rfl)
 replace e_w := e_w.trans x; clear hd hs x
 refine et ?_
 refine wp_cond_split (show _ = _ from s6) (fun hneg => ?_) (fun hneg => ?_)
 ·
  exfalso; simp at hneg; omega
 try simp only [decide_eq_true_eq, decide_eq_false_iff_not, Bool.not_eq_true', Bool.not_eq_false', Bool.not_true, Bool.not_false, Bool.and_eq_true, Bool.and_eq_false_iff, Bool.or_eq_true, Bool.or_eq_false_iff, bne_iff_ne, beq_iff_eq, ne_eq, beq_eq_false_iff_ne, bne_eq_false_iff_eq] at hneg
 refine wp_skip ?_
 refine es ?_
 refine sq ?_
 refine wp_reg 27 [[(1, none)], [(0, none)], [(9, some 1)], [(0, none)], [(11, some 3)], [(10, some 2), (12, some 4)], [(8, some 0), (13, some 5)], [(14, some 6)]] [?b6_0, ?b6_1, ?b6_2, ?b6_3, ?b6_4, ?b6_5, ?b6_6, ?b6_6] mixed hr ?t6 ?o6 ?_
 case o6 =>
  apply oc0; intro A W hx hf
  exact ok_movE (a0 := a4) (r0 hf)
  apply oc0; intro A W hx hf
  exact ok_movE (a0 := a4) (r0 hf)
  apply oc0; intro A W hx hf
  exact ok_cap_nil Try.underlying22 (p2 s0 e_w hx (q0 ?b6_1 A W 9 hf))
  apply oc0; intro A W hx hf
  exact ok_movE (a0 := a4) (r0 hf)
  apply oc0; intro A W hx hf
  exact ok_len_nil Try.underlying22 (p2 s0 e_w hx (q0 ?b6_3 A W 11 hf))
  apply oc0; intro A W hx hf
  exact ok_subI (q0 ?b6_2 A W 10 hf) (q1 ?b6_4 A W 12 hf) (by omega)
  apply oc0; intro A W hx hf
  exact ok_subI (p2 s1 e_w hx (q0 ?b6_0 A W 8 hf)) (q1 ?b6_5 A W 13 hf) (by omega)
  apply oc0; intro A W hx hf
  exact ok_assign (q0 ?b6_6 A W 14 hf)
  exact onn
 case t6 => exact inferInstance
 clear hr; intro a7 w7 x hr hd hs
 revert s0; refine kp1 hs rfl ?_; intro s0
 clear s1 s6
 have s1 := fa ?b6_6 a7 w7 1 (hd 7 1 rfl)
 replace e_w := e_w.trans x; clear hd hs x
 refine es ?_
 refine wp_reg 27 [[(1, none)], [(15, some 0)]] [?b8_0, ?b8_1] mixed hr ?t8 ?o8 ?_
 case o8 =>
  apply oc0; intro A W hx hf
  exact ok_movE (a0 := a7) (r0 hf)
  apply oc0; intro A W hx hf
  exact ok_gtr (p1 s1 hx (q0 ?b8_0 A W 15 hf)) (ec A (.int .i64 0))
  exact onn
 case t8 => exact inferInstance
 clear hr; intro a9 w9 x hr hd hs
 revert s1; revert s0; refine kp2 hs rfl ?_; intro s0 s1
 have s16 := fa ?b8_1 a9 w9 16 (hd 1 16 rfl)
 replace e_w := e_w.trans x
 have e_w7 := x; clear hd hs x
 refine et ?_
 refine wp_cut (fun A W => Fr 27 A ∧ Same D_c_grow_0 a9 A ∧ Ext w W ∧ (OwnB B 5 []) (A.eval (.tmp 0)) W) ?cut10 ?_
 case cut10 =>
  have m10 : Same D_c_grow_0 a9 a9 := Same.rfl
  refine wp_cond_split (show _ = _ from s16) (fun hpos => ?_) (fun hpos => ?_)
  ·
   have hp : 0 < n := by simp at hpos; omega
   refine wp_reg 27 [[(0, none)], [(0, none)], [(18, some 1)], [(17, some 0), (19, some 2)], [(1, none)], [(20, some 3), (21, some 4)], [(0, none)], [(23, some 6)], [(22, some 5), (24, some 7)], [(25, some 8)]] [?b12_0, ?b12_1, ?b12_2, ?b12_3, ?b12_4, ?b12_5, ?b12_6, ?b12_7, ?b12_8, ?b12_8] mixed hr ?t12 ?o12 ?_
   case o12 =>
    apply oc0; intro A W hx hf
    exact ok_movE (a0 := a9) (r0 hf)
    apply oc0; intro A W hx hf
    exact ok_movE (a0 := a9) (r0 hf)
    apply oc0; intro A W hx hf
    exact ok_cap_nil Try.underlying22 (p2 s0 e_w hx (q0 ?b12_1 A W 18 hf))
    apply oc0; intro A W hx hf
    exact ok_slice_nil Try.underlying22 size5 (p2 s0 e_w hx (q0 ?b12_0 A W 17 hf)) (q1 ?b12_2 A W 19 hf)
    apply oc0; intro A W hx hf
    exact ok_movE (a0 := a9) (r0 hf)
    apply oc0; intro A W hx hf
    exact ok_append_zeros (B := B) (n := n) Try.underlying22 Try.underlying3 info5 rfl (q0 ?b12_3 A W 20 hf) (Is.int (p2 s1 e_w7 hx (q1 ?b12_4 A W 21 hf)) (by omega)) hp (by omega) (Nat.le_trans hB (Nat.le_trans e_w.size hx.size))
    apply oc0; intro A W hx hf
    exact ok_movE (a0 := a9) (r0 hf)
    apply oc0; intro A W hx hf
    exact ok_len_nil Try.underlying22 (p2 s0 e_w hx (q0 ?b12_6 A W 23 hf))
    apply oc0; intro A W hx hf
    exact ok_slice_own 0 Try.underlying22 size5 (q0 ?b12_5 A W 22 hf) (q1 ?b12_7 A W 24 hf) (by omega)
    apply oc0; intro A W hx hf
    exact ok_assign (q0 ?b12_8 A W 25 hf)
    exact onn
   case t12 => exact inferInstance
   clear hr; intro a13 w13 x hr hd hs
   clear s0 s1 s16
   have s0 := fa ?b12_8 a13 w13 0 (hd 9 0 rfl)
   replace e_w := e_w.trans x
   clear e_w7
   replace m10 := m10.tr hs rfl; clear hd hs x
   refine et ?_
   refine ⟨hr, m10, e_w, ?_⟩
   · first | exact s0 | (rw [show OwnB B 5 [] = Is (.slice none 0 0) from rfl]; exact s0) | exact (show OwnB B 5 [] _ _ from (show Is (.slice none 0 0) _ _ from s0) ▸ ownB_nil)
  skip
  refine wp_skip ?_
  refine et ?_
  refine ⟨hr, m10, e_w, ?_⟩
  · first | exact (later e_w s0) | (rw [show OwnB B 5 [] = Is (.slice none 0 0) from rfl]; exact (later e_w s0)) | exact (show OwnB B 5 [] _ _ from (show Is (.slice none 0 0) _ _ from (later e_w s0)) ▸ ownB_nil)
 intro a10 w10 hI
 clear e_w
 clear e_w7
 clear hr; obtain ⟨hr, hs, e_w, u0⟩ := hI
 clear s0 s1 s16
 have s0 := u0; clear u0
 clear hs
 refine sq ?_
 refine wp_reg 27 [[(0, none)], [(26, some 0)]] [?b14_0, ?b14_0] mixed hr ?t14 ?o14 ?_
 case o14 =>
  apply oc0; intro A W hx hf
  exact ok_movE (a0 := a10) (r0 hf)
  apply oc0; intro A W hx hf
  exact ok_assign (q0 ?b14_0 A W 26 hf)
  exact onn
 case t14 => exact inferInstance
 clear hr; intro a15 w15 x hr hd hs
 have u4 := mv s0 (fa ?b14_0 a15 w15 4 (hd 1 4 rfl))
 clear s0
 have s4 := u4; clear u4
 replace e_w := e_w.trans x
 have e_w10 := x; clear hd hs x
 refine et ?_
 refine wp_ret ?_
 refine ret_tmp Try.results64 hr e_w ?_
 first | exact (later e_w10 s4) | exact Is.int (later e_w10 s4) (by omega) | exact Is.bool (later e_w10 s4) (by omega)

def D_c_concat_0 : List Tmp := [3, 5, 11, 12, 13, 14, 15, 16, 17, 18, 19, 20, 21, 22]
def D_c_concat_1 : List Tmp := [6, 8, 27, 28, 29, 30, 31, 32, 33, 34]
theorem c_concat {x0 : Value} {w : World} {ls : List (List UInt8)} {B : Nat} (h0 : (Bss ls) x0 w) (hB : B ≤ w.heap.size) (hn : ls.flatten.length ≤ 1000000000000) :
    Calls Try.prog 34 #[x0] w (Ret (OwnB B 5 ls.flatten) w) := by
 have hlen : ls.length ≤ 9223372036854775807 := Bss.len_le h0
 have hsum := fun i => flat_take_le ls i
 refine enter Try.func34 rfl Try.ntmps34 (k := 1) rfl (by decide) (fun a0 hr hargs => ?_)
 have s0 := sarg h0 (hargs 0 (by decide))
 clear hargs
 refine sq ?_
 refine wp_reg 36 [[]] [?b1_0] mixed hr ?t1 ?o1 ?_
 case o1 =>
  apply oc0; intro A W hx hf
  exact ok_assignv (Bs []) (fun _ => bs_nil)
  exact onn
 case t1 => exact inferInstance
 clear hr; intro a2 w2 x hr hd hs
 revert s0; refine kp1 hs rfl ?_; intro s0
 have e_w := x; clear hd hs x
 refine es ?_
 refine wp_reg 36 [[]] [?b3_0] mixed hr ?t3 ?o3 ?_
 case o3 =>
  apply oc0; intro A W hx hf
  exact ok_assignc
  exact onn
 case t3 => exact inferInstance
 clear hr; intro a4 w4 x hr hd hs
 revert s0; refine kp1 hs rfl ?_; intro s0
 have s3 := fa ?b3_0 a4 w4 3 (hd 0 3 rfl)
 replace e_w := e_w.trans x; clear hd hs x
 refine es ?_
 refine sq ?_
 refine wp_reg 36 [[(0, none)], [(9, some 0)], []] [?b5_0, ?b5_1, ?b5_2] mixed hr ?t5 ?o5 ?_
 case o5 =>
  apply oc0; intro A W hx hf
  exact ok_movE (a0 := a4) (r0 hf)
  apply oc0; intro A W hx hf
  exact ok_len_bss tu107 (p2 s0 e_w hx (q0 ?b5_0 A W 9 hf))
  apply oc0; intro A W hx hf
  exact ok_movec
  exact onn
 case t5 => exact inferInstance
 clear hr; intro a6 w6 x hr hd hs
 have u9 := mv s0 (fa ?b5_0 a6 w6 9 (hd 0 9 rfl))
 revert s3; revert s0; refine kp2 hs rfl ?_; intro s0 s3
 have s9 := u9; clear u9
 have s10 := fa ?b5_1 a6 w6 10 (hd 1 10 rfl)
 have s11 := fa ?b5_2 a6 w6 11 (hd 2 11 rfl)
 replace e_w := e_w.trans x
 have e_w4 := x; clear hd hs x
 refine et ?_
 refine wp_block ?_
 refine wp_loop_inv (fun n A W => ∃ (i : Nat), n = ls.length - i ∧ Fr 36 A ∧ Same D_c_concat_0 a6 A ∧ Ext w W ∧ Ext w6 W ∧ (i ≤ ls.length) ∧ (Is (.int .i64 ((ls.take i).flatten.length : Int))) (A.eval (.tmp 3)) W ∧ (Is (.int .i64 (i : Int))) (A.eval (.tmp 11)) W) ?start7 ?_
 case start7 =>
  refine ⟨_, 0, rfl, hr, Same.rfl, e_w, (Ext.refl _), (by first | assumption | omega), ?_, ?_⟩
  · exact Is.int (later e_w4 s3) (by simp)
  · exact s11
 intro n7 a7 w7 hI
 clear e_w
 clear e_w4
 clear hr; obtain ⟨i, hn7, hr, hs, e_w, e_w6, hi, u3, u11⟩ := hI
 revert s10; revert s9; revert s0; refine kp3 hs rfl ?_; intro s0 s9 s10
 clear s3 s11
 have s3 := u3; clear u3
 have s11 := u11; clear u11
 have m7 := hs; clear hs
 refine sq ?_
 refine wp_reg 36 [[(11, none), (10, none)]] [?b8_0] mixed hr ?t8 ?o8 ?_
 case o8 =>
  apply oc0; intro A W hx hf
  exact ok_lss (o1 s11 hx (r0 hf)) (o2 s10 e_w6 hx (r1 hf))
  exact onn
 case t8 => exact inferInstance
 clear hr; intro a9 w9 x hr hd hs
 revert s11; revert s3; revert s10; revert s9; revert s0; refine kp5 hs rfl ?_; intro s0 s9 s10 s3 s11
 have s12 := fa ?b8_0 a9 w9 12 (hd 0 12 rfl)
 replace e_w := e_w.trans x
 replace e_w6 := e_w6.trans x
 have e_w7 := x
 replace m7 := m7.tr hs rfl; clear hd hs x
 refine es ?_
 refine wp_cond_split (show _ = _ from s12) (fun hlt => ?_) (fun hlt => ?_)
 ·
  have hlt : i < ls.length := by simp at hlt; omega
  refine wp_skip ?_
  refine es ?_
  refine wp_block ?_
  refine sq ?_
  refine wp_reg 36 [[(9, none), (11, none)], [(13, some 0)], [(14, some 1)]] [?b11_0, ?b11_1, ?b11_1] mixed hr ?t11 ?o11 ?_
  case o11 =>
   apply oc0; intro A W hx hf
   exact ok_index_bss (_) tu107 size22 (o2 s9 e_w hx (r0 hf)) (o2 s11 e_w7 hx (r1 hf)) (by first | omega | decide | (simp; done) | (simp; omega))
   apply oc0; intro A W hx hf
   exact ok_loadp tu22 rfl (q0 ?b11_0 A W 13 hf)
   apply oc0; intro A W hx hf
   exact ok_assign (q0 ?b11_1 A W 14 hf)
   exact onn
  case t11 => exact inferInstance
  clear hr; intro a12 w12 x hr hd hs
  revert s11; revert s3; revert s10; revert s9; revert s0; refine kp5 hs rfl ?_; intro s0 s9 s10 s3 s11
  clear s12
  have s5 := fa ?b11_1 a12 w12 5 (hd 2 5 rfl)
  replace e_w := e_w.trans x
  replace e_w6 := e_w6.trans x
  replace e_w7 := e_w7.trans x
  replace m7 := m7.tr hs rfl; clear hd hs x
  refine es ?_
  have hs1 := hsum (i + 1); have hs2 := flat_len hlt
  refine wp_reg 36 [[(3, none)], [(5, none)], [(16, some 1)], [(15, some 0), (17, some 2)], [(18, some 3)]] [?b13_0, ?b13_1, ?b13_2, ?b13_3, ?b13_3] mixed hr ?t13 ?o13 ?_
  case o13 =>
   apply oc0; intro A W hx hf
   exact ok_movE (a0 := a12) (r0 hf)
   apply oc0; intro A W hx hf
   exact ok_movE (a0 := a12) (r0 hf)
   apply oc0; intro A W hx hf
   exact ok_len_bs tu22 (p1 s5 hx (q0 ?b13_1 A W 16 hf))
   apply oc0; intro A W hx hf
   exact ok_addI (p2 s3 e_w7 hx (q0 ?b13_0 A W 15 hf)) (q1 ?b13_2 A W 17 hf) (by omega)
   apply oc0; intro A W hx hf
   exact ok_assign (q0 ?b13_3 A W 18 hf)
   exact onn
  case t13 => exact inferInstance
  clear hr; intro a14 w14 x hr hd hs
  revert s11; revert s10; revert s9; revert s0; refine kp4 hs rfl ?_; intro s0 s9 s10 s11
  clear s3 s5
  have s3 := fa ?b13_3 a14 w14 3 (hd 4 3 rfl)
  replace e_w := e_w.trans x
  replace e_w6 := e_w6.trans x
  replace e_w7 := e_w7.trans x
  replace m7 := m7.tr hs rfl; clear hd hs x
  refine es ?_
  refine wp_reg 36 [[(3, none)], [(19, some 0)]] [?b15_0, ?b15_1] mixed hr ?t15 ?o15 ?_
  case o15 =>
   apply oc0; intro A W hx hf
   exact ok_movE (a0 := a14) (r0 hf)
   apply oc0; intro A W hx hf
   exact ok_lss (p1 s3 hx (q0 ?b15_0 A W 19 hf)) (ec A (.int .i64 0))
   exact onn
  case t15 => exact inferInstance
  clear hr; intro a16 w16 x hr hd hs
  revert s3; revert s11; revert s10; revert s9; revert s0; refine kp5 hs rfl ?_; intro s0 s9 s10 s11 s3
  have s20 := fa ?b15_1 a16 w16 20 (hd 1 20 rfl)
  replace e_w := e_w.trans x
  replace e_w6 := e_w6.trans x
  replace e_w7 := e_w7.trans x
  have e_w14 := x
  replace m7 := m7.tr hs rfl; clear hd hs x
  refine et ?_
  refine wp_cond_split (show _ = _ from s20) (fun hc17 => ?_) (fun hc17 => ?_)
  ·
   exfalso; simp at hc17; omega
  try simp only [decide_eq_true_eq, decide_eq_false_iff_not, Bool.not_eq_true', Bool.not_eq_false', Bool.not_true, Bool.not_false, Bool.and_eq_true, Bool.and_eq_false_iff, Bool.or_eq_true, Bool.or_eq_false_iff, bne_iff_ne, beq_iff_eq, ne_eq, beq_eq_false_iff_ne, bne_eq_false_iff_eq] at hc17
  refine wp_skip ?_
  refine blk_normal ?_
  refine et ?_
  refine wp_reg 36 [[(11, none)], [(22, some 0)]] [?b18_0, ?b18_0] mixed hr ?t18 ?o18 ?_
  case o18 =>
   apply oc0; intro A W hx hf
   exact ok_addI (o2 s11 e_w7 hx (r0 hf)) (ec A (.int .i64 1)) (by omega)
   apply oc0; intro A W hx hf
   exact ok_move (q0 ?b18_0 A W 22 hf)
   exact onn
  case t18 => exact inferInstance
  clear hr; intro a19 w19 x hr hd hs
  revert s3; revert s10; revert s9; revert s0; refine kp4 hs rfl ?_; intro s0 s9 s10 s3
  clear s11 s20
  have s11 := fa ?b18_0 a19 w19 11 (hd 1 11 rfl)
  replace e_w := e_w.trans x
  replace e_w6 := e_w6.trans x
  clear e_w7
  replace e_w14 := e_w14.trans x
  replace m7 := m7.tr hs rfl; clear hd hs x
  refine et ?_
  refine ⟨(fun (i : Nat) => ls.length - i) (i + 1), ?_, ?_⟩
  · (try dsimp only); omega
  refine ⟨i + 1, rfl, hr, m7, e_w, e_w6, (by first | assumption | omega), ?_, ?_⟩
  · exact Is.int (later e_w14 s3) (flat_len hlt)
  · first | exact s11 | exact Is.int s11 (by first | omega | simp) | exact Is.bool s11 (by first | omega | simp)
 have hlt : i = ls.length := by simp at hlt; omega
 subst hlt
 refine wp_exit ?_
 refine then_exit ?_
 refine then_exit ?_
 refine blk_exit ?_
 refine es ?_
 refine wp_reg 36 [[(3, none)], [(23, some 0)], [(24, some 1)]] [?b20_0, ?b20_1, ?b20_1] mixed hr ?t20 ?o20 ?_
 case o20 =>
  apply oc0; intro A W hx hf
  exact ok_movE (a0 := a9) (r0 hf)
  apply oc0; intro A W hx hf
  exact ok_call2 body64 (c_grow (show Is (.slice none 0 0) (A.eval (.const (.slice none 0 0))) _ from rfl) (p2 s3 e_w7 hx (q0 ?b20_0 A W 23 hf)) hx.size (by rw [List.take_length]; exact hn))
  apply oc0; intro A W hx hf
  exact ok_assign (q0 ?b20_1 A W 24 hf)
  exact onn
 case t20 => exact inferInstance
 clear hr; intro a21 w21 x hr hd hs
 have z_w_w9 := e_w.size
 have z_w6_w9 := e_w6.size
 have z_w7_w9 := e_w7.size
 revert s0; refine kp1 hs rfl ?_; intro s0
 clear s9 s10 s3 s11 s12
 have s6 := fa ?b20_1 a21 w21 6 (hd 2 6 rfl)
 replace e_w := e_w.trans x
 clear e_w6
 clear e_w7
 have e_w9 := x; clear hd hs x
 refine es ?_
 refine sq ?_
 refine wp_reg 36 [[(0, none)], [(25, some 0)], []] [?b22_0, ?b22_1, ?b22_2] mixed hr ?t22 ?o22 ?_
 case o22 =>
  apply oc0; intro A W hx hf
  exact ok_movE (a0 := a21) (r0 hf)
  apply oc0; intro A W hx hf
  exact ok_len_bss tu107 (p2 s0 e_w hx (q0 ?b22_0 A W 25 hf))
  apply oc0; intro A W hx hf
  exact ok_movec
  exact onn
 case t22 => exact inferInstance
 clear hr; intro a23 w23 x hr hd hs
 have u25 := mv s0 (fa ?b22_0 a23 w23 25 (hd 0 25 rfl))
 revert s6; refine kp1 hs rfl ?_; intro s6
 clear s0
 have s25 := u25; clear u25
 have s26 := fa ?b22_1 a23 w23 26 (hd 1 26 rfl)
 have s27 := fa ?b22_2 a23 w23 27 (hd 2 27 rfl)
 replace e_w := e_w.trans x
 replace e_w9 := e_w9.trans x
 have e_w21 := x; clear hd hs x
 refine et ?_
 refine wp_block ?_
 refine wp_loop_inv (fun n A W => ∃ (i : Nat), n = ls.length - i ∧ Fr 36 A ∧ Same D_c_concat_1 a23 A ∧ Ext w W ∧ Ext w9 W ∧ (i ≤ ls.length) ∧ (OwnB w9.heap.size 5 (ls.take i).flatten) (A.eval (.tmp 6)) W ∧ (Is (.int .i64 (i : Int))) (A.eval (.tmp 27)) W) ?start24 ?_
 case start24 =>
  refine ⟨_, 0, rfl, hr, Same.rfl, e_w, e_w9, (by first | assumption | omega), ?_, ?_⟩
  · exact (later e_w21 s6)
  · exact s27
 intro n24 a24 w24 hI
 clear e_w
 clear e_w9
 clear e_w21
 clear hr; obtain ⟨i, hn24, hr, hs, e_w, e_w9, hi2, u6, u27⟩ := hI
 revert s26; revert s25; refine kp2 hs rfl ?_; intro s25 s26
 clear s6 s27
 have s6 := u6; clear u6
 have s27 := u27; clear u27
 replace s26 := anyw (w2 := w24) s26
 have m24 := hs; clear hs
 refine sq ?_
 refine wp_reg 36 [[(27, none), (26, none)]] [?b25_0] mixed hr ?t25 ?o25 ?_
 case o25 =>
  apply oc0; intro A W hx hf
  exact ok_lss (o1 s27 hx (r0 hf)) (o1 s26 hx (r1 hf))
  exact onn
 case t25 => exact inferInstance
 clear hr; intro a26 w26 x hr hd hs
 revert s26; revert s27; revert s6; revert s25; refine kp4 hs rfl ?_; intro s25 s6 s27 s26
 have s28 := fa ?b25_0 a26 w26 28 (hd 0 28 rfl)
 replace e_w := e_w.trans x
 replace e_w9 := e_w9.trans x
 have e_w24 := x
 replace m24 := m24.tr hs rfl; clear hd hs x
 refine es ?_
 refine wp_cond_split (show _ = _ from s28) (fun hlt => ?_) (fun hlt => ?_)
 ·
  have hlt : i < ls.length := by simp at hlt; omega
  refine wp_skip ?_
  refine es ?_
  refine wp_block ?_
  refine sq ?_
  refine wp_reg 36 [[(25, none), (27, none)], [(29, some 0)], [(30, some 1)]] [?b28_0, ?b28_1, ?b28_1] mixed hr ?t28 ?o28 ?_
  case o28 =>
   apply oc0; intro A W hx hf
   exact ok_index_bss (_) tu107 size22 (o2 s25 e_w hx (r0 hf)) (o2 s27 e_w24 hx (r1 hf)) (by first | omega | decide | (simp; done) | (simp; omega))
   apply oc0; intro A W hx hf
   exact ok_loadp tu22 rfl (q0 ?b28_0 A W 29 hf)
   apply oc0; intro A W hx hf
   exact ok_assign (q0 ?b28_1 A W 30 hf)
   exact onn
  case t28 => exact inferInstance
  clear hr; intro a29 w29 x hr hd hs
  revert s26; revert s27; revert s6; revert s25; refine kp4 hs rfl ?_; intro s25 s6 s27 s26
  clear s28
  have s8 := fa ?b28_1 a29 w29 8 (hd 2 8 rfl)
  replace e_w := e_w.trans x
  replace e_w9 := e_w9.trans x
  replace e_w24 := e_w24.trans x
  replace m24 := m24.tr hs rfl; clear hd hs x
  refine et ?_
  have hs1 := hsum (i + 1); have hs2 := flat_len hlt
  refine wp_reg_pre (l := [_, _]) (rest := [_, _]) 36 [[(6, none)], [(8, none)]] [?b30_0, ?b30_1] hr ?t30 ?o30 ?_
  case o30 =>
   apply oc0; intro A W hx hf
   exact ok_movE (a0 := a29) (r0 hf)
   apply oc0; intro A W hx hf
   exact ok_movE (a0 := a29) (r0 hf)
   exact onn
  case t30 => exact inferInstance
  clear hr; intro a31 w31 x hr hd hs
  have u31 := mv s6 (fa ?b30_0 a31 w31 31 (hd 0 31 rfl))
  have u32 := mv s8 (fa ?b30_1 a31 w31 32 (hd 1 32 rfl))
  revert s26; revert s27; revert s6; revert s25; refine kp4 hs rfl ?_; intro s25 s6 s27 s26
  clear s8
  have s31 := u31; clear u31
  have s32 := u32; clear u32
  replace e_w := e_w.trans x
  replace e_w9 := e_w9.trans x
  replace e_w24 := e_w24.trans x
  have e_w29 := x
  replace m24 := m24.tr hs rfl; clear hd hs x
  refine wl_append_bs hr (by decide) tu22 info5 rfl (later e_w24 s31) (later e_w29 s32) e_w9.size (by have e1 := congrArg List.length (tot_next hlt); simp only [List.length_append] at e1; omega) ?_; clear hr; intro a32 w32 hb hr hd hs
  revert s26; revert s27; revert s6; revert s25; refine kp4 hs rfl ?_; intro s25 s6 s27 s26
  clear s31 s32
  have s33 := hd
  replace e_w := e_w.below z_w_w9 hb
  replace e_w9 := e_w9.below (Nat.le_refl _) hb
  clear e_w24
  clear e_w29
  replace s27 := anyw (w2 := w32) s27
  replace s26 := anyw (w2 := w32) s26
  replace m24 := m24.tr hs rfl
  clear hd hs hb
  refine wl_op hr (ok_assign s33) inferInstance ?_; clear hr; intro a33 w33 x hr hd hs
  revert s26; revert s27; revert s25; refine kp3 hs rfl ?_; intro s25 s27 s26
  clear s33
  have s6 := hd 6 rfl (by decide)
  replace e_w := e_w.trans x
  replace e_w9 := e_w9.trans x
  have e_w32 := x
  replace m24 := m24.tr hs rfl; clear hd hs x
  refine wpList_nil ?_
  refine blk_normal ?_
  refine et ?_
  refine wp_reg 36 [[(27, none)], [(34, some 0)]] [?b34_0, ?b34_0] mixed hr ?t34 ?o34 ?_
  case o34 =>
   apply oc0; intro A W hx hf
   exact ok_addI (o2 s27 e_w32 hx (r0 hf)) (ec A (.int .i64 1)) (by omega)
   apply oc0; intro A W hx hf
   exact ok_move (q0 ?b34_0 A W 34 hf)
   exact onn
  case t34 => exact inferInstance
  clear hr; intro a35 w35 x hr hd hs
  revert s6; revert s26; revert s25; refine kp3 hs rfl ?_; intro s25 s26 s6
  clear s27
  have s27 := fa ?b34_0 a35 w35 27 (hd 1 27 rfl)
  replace e_w := e_w.trans x
  replace e_w9 := e_w9.trans x
  replace e_w32 := e_w32.trans x
  have e_w33 := x
  replace m24 := m24.tr hs rfl; clear hd hs x
  refine et ?_
  refine ⟨(fun (i : Nat) => ls.length - i) (i + 1), ?_, ?_⟩
  · (try dsimp only); omega
  refine ⟨i + 1, rfl, hr, m24, e_w, e_w9, (by first | assumption | omega), ?_, ?_⟩
  · rw [tot_next hlt]; exact (later e_w33 s6)
  · first | exact s27 | exact Is.int s27 (by first | omega | simp) | exact Is.bool s27 (by first | omega | simp)
 have hlt : i = ls.length := by simp at hlt; omega
 subst hlt
 refine wp_exit ?_
 refine then_exit ?_
 refine then_exit ?_
 refine blk_exit ?_
 refine es ?_
 refine wp_reg 36 [[(6, none)], [(35, some 0)]] [?b36_0, ?b36_0] mixed hr ?t36 ?o36 ?_
 case o36 =>
  apply oc0; intro A W hx hf
  exact ok_movE (a0 := a26) (r0 hf)
  apply oc0; intro A W hx hf
  exact ok_assign (q0 ?b36_0 A W 35 hf)
  exact onn
 case t36 => exact inferInstance
 clear hr; intro a37 w37 x hr hd hs
 have u2 := mv s6 (fa ?b36_0 a37 w37 2 (hd 1 2 rfl))
 clear s25 s6 s27 s26 s28
 have s2 := u2; clear u2
 replace e_w := e_w.trans x
 replace e_w9 := e_w9.trans x
 replace e_w24 := e_w24.trans x; clear hd hs x
 refine et ?_
 refine wp_ret ?_
 refine ret_tmp Try.results34 hr e_w ?_
 (rw [List.take_length] at s2; exact OwnB.mono (later e_w24 s2) (Nat.le_trans hB (by assumption)))

theorem c_Sum {x0 : Value} {w : World} {ls : List (List UInt8)} (h0 : (Bss ls) x0 w)  :
    Calls Try.prog 68 #[x0] w (Ret (Is (.int .u16 (ck ls.flatten))) w) := by
 have hb := norm_bd (wsum ls.flatten)
 refine enter Try.func68 rfl Try.ntmps68 (k := 1) rfl (by decide) (fun a0 hr hargs => ?_)
 have s0 := sarg h0 (hargs 0 (by decide))
 clear hargs
 refine sq ?_
 refine wp_reg 7 [[]] [?b1_0] mixed hr ?t1 ?o1 ?_
 case o1 =>
  apply oc0; intro A W hx hf
  exact ok_assignc
  exact onn
 case t1 => exact inferInstance
 clear hr; intro a2 w2 x hr hd hs
 revert s0; refine kp1 hs rfl ?_; intro s0
 have e_w := x; clear hd hs x
 refine es ?_
 refine wp_reg 7 [[(0, none)], [(3, some 0)], [(4, some 1)], [(5, some 2)], [(6, some 3)]] [?b3_0, ?b3_1, ?b3_2, ?b3_3, ?b3_3] mixed hr ?t3 ?o3 ?_
 case o3 =>
  apply oc0; intro A W hx hf
  exact ok_movE (a0 := a2) (r0 hf)
  apply oc0; intro A W hx hf
  exact ok_call1 body87 (c_total (p2 s0 e_w hx (q0 ?b3_0 A W 3 hf)))
  apply oc0; intro A W hx hf
  exact ok_convI tu125 tu46 (by exact IntWalk.u16_in _ (by omega)) (q0 ?b3_1 A W 4 hf)
  apply oc0; intro A W hx hf
  exact ok_compl (q0 ?b3_2 A W 5 hf)
  apply oc0; intro A W hx hf
  exact ok_assign (q0 ?b3_3 A W 6 hf)
  exact onn
 case t3 => exact inferInstance
 clear hr; intro a4 w4 x hr hd hs
 clear s0
 have s2 := fa ?b3_3 a4 w4 2 (hd 4 2 rfl)
 replace e_w := e_w.trans x; clear hd hs x
 refine et ?_
 refine wp_ret ?_
 refine ret_tmp Try.results68 hr e_w ?_
 exact Is.int s2 (compl16 hb)

theorem c_Right {x0 : Value} {w : World} {ls : List (List UInt8)} (h0 : (Bss ls) x0 w)  :
    Calls Try.prog 74 #[x0] w (Ret (Is (.bool (ck ls.flatten == 0))) w) := by
 refine enter Try.func74 rfl Try.ntmps74 (k := 1) rfl (by decide) (fun a0 hr hargs => ?_)
 have s0 := sarg h0 (hargs 0 (by decide))
 clear hargs
 refine sq ?_
 refine wp_reg 6 [[]] [?b1_0] mixed hr ?t1 ?o1 ?_
 case o1 =>
  apply oc0; intro A W hx hf
  exact ok_assignc
  exact onn
 case t1 => exact inferInstance
 clear hr; intro a2 w2 x hr hd hs
 revert s0; refine kp1 hs rfl ?_; intro s0
 have e_w := x; clear hd hs x
 refine es ?_
 refine wp_reg 6 [[(0, none)], [(3, some 0)], [(4, some 1)], [(5, some 2)]] [?b3_0, ?b3_1, ?b3_2, ?b3_2] mixed hr ?t3 ?o3 ?_
 case o3 =>
  apply oc0; intro A W hx hf
  exact ok_movE (a0 := a2) (r0 hf)
  apply oc0; intro A W hx hf
  exact ok_call1 body68 (c_Sum (p2 s0 e_w hx (q0 ?b3_0 A W 3 hf)))
  apply oc0; intro A W hx hf
  exact ok_eql (q0 ?b3_1 A W 4 hf) (ec A (.int .u16 0))
  apply oc0; intro A W hx hf
  exact ok_assign (q0 ?b3_2 A W 5 hf)
  exact onn
 case t3 => exact inferInstance
 clear hr; intro a4 w4 x hr hd hs
 clear s0
 have s2 := fa ?b3_2 a4 w4 2 (hd 3 2 rfl)
 replace e_w := e_w.trans x; clear hd hs x
 refine et ?_
 refine wp_ret ?_
 refine ret_tmp Try.results74 hr e_w ?_
 exact s2

theorem c_Pseudo {x0 x1 x2 x3 : Value} {w : World} {Sa Da : Adr} {p n : Int} {B : Nat} (h0 : (Is (AdrV Sa)) x0 w) (h1 : (Is (AdrV Da)) x1 w) (h2 : (Is (.int .i64 p)) x2 w) (h3 : (Is (.int .i64 n)) x3 w) (hA : Sa.b.length = 16) (hD : Da.b.length = 16) (hB : B ≤ w.heap.size) :
    Calls Try.prog 90 #[x0, x1, x2, x3] w (Ret (OwnB B 5 (pseudoL Sa Da p n)) w) := by
 refine enter Try.func90 rfl Try.ntmps90 (k := 4) rfl (by decide) (fun a0 hr hargs => ?_)
 have s0 := sarg h0 (hargs 0 (by decide))
 have s1 := sarg h1 (hargs 1 (by decide))
 have s2 := sarg h2 (hargs 2 (by decide))
 have s3 := sarg h3 (hargs 3 (by decide))
 clear hargs
 refine sq ?_
 refine wp_reg 42 [[(0, none)], [(1, none)], []] [?b1_0, ?b1_1, ?b1_2] mixed hr ?t1 ?o1 ?_
 case o1 =>
  apply oc0; intro A W hx hf
  exact ok_boxA (o1 s0 hx (r0 hf))
  apply oc0; intro A W hx hf
  exact ok_boxA (o1 s1 hx (r0 hf))
  apply oc0; intro A W hx hf
  exact ok_assignv (Bs []) (fun _ => bs_nil)
  exact onn
 case t1 => exact inferInstance
 clear hr; intro a2 w2 x hr hd hs
 revert s3; revert s2; refine kp2 hs rfl ?_; intro s2 s3
 clear s0 s1
 have s4 := fa ?b1_0 a2 w2 4 (hd 0 4 rfl)
 have s5 := fa ?b1_1 a2 w2 5 (hd 1 5 rfl)
 have e_w := x; clear hd hs x
 refine es ?_
 refine wp_reg 42 [[(2, none)], [(10, some 0)], [(3, none)], [(12, some 2)], [(13, some 3)], [(3, none)], [(15, some 5)], [(11, some 1), (14, some 4), (16, some 6)], [(17, some 7)]] [?b3_0, ?b3_1, ?b3_2, ?b3_3, ?b3_4, ?b3_5, ?b3_6, ?b3_7, ?b3_7] mixed hr ?t3 ?o3 ?_
 case o3 =>
  apply oc0; intro A W hx hf
  exact ok_movE (a0 := a2) (r0 hf)
  apply oc0; intro A W hx hf
  exact ok_conv8 tu3 tu5 (p2 s2 e_w hx (q0 ?b3_0 A W 10 hf))
  apply oc0; intro A W hx hf
  exact ok_movE (a0 := a2) (r0 hf)
  apply oc0; intro A W hx hf
  exact ok_shr 8 (by decide) (p2 s3 e_w hx (q0 ?b3_2 A W 12 hf)) (ec A (.int .u64 8))
  apply oc0; intro A W hx hf
  exact ok_conv8 tu3 tu5 (q0 ?b3_3 A W 13 hf)
  apply oc0; intro A W hx hf
  exact ok_movE (a0 := a2) (r0 hf)
  apply oc0; intro A W hx hf
  exact ok_conv8 tu3 tu5 (p2 s3 e_w hx (q0 ?b3_5 A W 15 hf))
  apply oc0; intro A W hx hf
  exact ok_buildBs [(.const (.int .u8 0)), (.tmp 11), (.tmp 14), (.tmp 16)] [_, _, _, _] tu22 size5 zero5 rfl rfl (by decide) (PartsOk.cons (show ByteIs 0 _ _ from rfl) (PartsOk.cons (q0 ?b3_1 A W 11 hf) (PartsOk.cons (q1 ?b3_4 A W 14 hf) (PartsOk.cons (q2 ?b3_6 A W 16 hf) (PartsOk.nil)))))
  apply oc0; intro A W hx hf
  exact ok_assign (q0 ?b3_7 A W 17 hf)
  exact onn
 case t3 => exact inferInstance
 clear hr; intro a4 w4 x hr hd hs
 revert s5; revert s4; revert s3; revert s2; refine kp4 hs rfl ?_; intro s2 s3 s4 s5
 have s9 := fa ?b3_7 a4 w4 9 (hd 8 9 rfl)
 replace e_w := e_w.trans x
 have e_w2 := x; clear hd hs x
 refine es ?_
 refine sq ?_
 refine wp_reg 42 [[(4, none)], [(18, some 0)]] [?b5_0, ?b5_1] mixed hr ?t5 ?o5 ?_
 case o5 =>
  apply oc0; intro A W hx hf
  exact ok_fieldAddr tu26 (i := 0) rfl size4 rfl (o2 s4 e_w2 hx (r0 hf))
  apply oc0; intro A W hx hf
  exact ok_loadc tu4 rfl (q0 ?b5_0 A W 18 hf)
  exact onn
 case t5 => exact inferInstance
 clear hr; intro a6 w6 x hr hd hs
 revert s9; revert s5; revert s4; revert s3; revert s2; refine kp5 hs rfl ?_; intro s2 s3 s4 s5 s9
 have s19 := fa ?b5_1 a6 w6 19 (hd 1 19 rfl)
 replace e_w := e_w.trans x
 replace e_w2 := e_w2.trans x
 have e_w4 := x; clear hd hs x
 refine et ?_
 refine wp_cond_split (show _ = _ from s19) (fun h6 => ?_) (fun h6 => ?_)
 ·
  skip
  refine sq ?_
  refine wp_reg 42 [[(3, none)], [(20, some 0)], [(21, some 1)], [(3, none)], [(23, some 3)], [(2, none)], [(25, some 5)], [(22, some 2), (24, some 4), (26, some 6)], [(27, some 7)]] [?b8_0, ?b8_1, ?b8_2, ?b8_3, ?b8_4, ?b8_5, ?b8_6, ?b8_7, ?b8_7] mixed hr ?t8 ?o8 ?_
  case o8 =>
   apply oc0; intro A W hx hf
   exact ok_movE (a0 := a6) (r0 hf)
   apply oc0; intro A W hx hf
   exact ok_shr 8 (by decide) (p2 s3 e_w hx (q0 ?b8_0 A W 20 hf)) (ec A (.int .u64 8))
   apply oc0; intro A W hx hf
   exact ok_conv8 tu3 tu5 (q0 ?b8_1 A W 21 hf)
   apply oc0; intro A W hx hf
   exact ok_movE (a0 := a6) (r0 hf)
   apply oc0; intro A W hx hf
   exact ok_conv8 tu3 tu5 (p2 s3 e_w hx (q0 ?b8_3 A W 23 hf))
   apply oc0; intro A W hx hf
   exact ok_movE (a0 := a6) (r0 hf)
   apply oc0; intro A W hx hf
   exact ok_conv8 tu3 tu5 (p2 s2 e_w hx (q0 ?b8_5 A W 25 hf))
   apply oc0; intro A W hx hf
   exact ok_buildBs [(.const (.int .u8 0)), (.const (.int .u8 0)), (.tmp 22), (.tmp 24), (.const (.int .u8 0)), (.const (.int .u8 0)), (.const (.int .u8 0)), (.tmp 26)] [_, _, _, _, _, _, _, _] tu22 size5 zero5 rfl rfl (by decide) (PartsOk.cons (show ByteIs 0 _ _ from rfl) (PartsOk.cons (show ByteIs 0 _ _ from rfl) (PartsOk.cons (q0 ?b8_2 A W 22 hf) (PartsOk.cons (q1 ?b8_4 A W 24 hf) (PartsOk.cons (show ByteIs 0 _ _ from rfl) (PartsOk.cons (show ByteIs 0 _ _ from rfl) (PartsOk.cons (show ByteIs 0 _ _ from rfl) (PartsOk.cons (q2 ?b8_6 A W 26 hf) (PartsOk.nil)))))))))
   apply oc0; intro A W hx hf
   exact ok_assign (q0 ?b8_7 A W 27 hf)
   exact onn
  case t8 => exact inferInstance
  clear hr; intro a9 w9 x hr hd hs
  revert s5; revert s4; refine kp2 hs rfl ?_; intro s4 s5
  clear s2 s3 s9 s19
  have s9 := fa ?b8_7 a9 w9 9 (hd 8 9 rfl)
  replace e_w := e_w.trans x
  replace e_w2 := e_w2.trans x
  clear e_w4; clear hd hs x
  refine es ?_
  refine wp_reg 42 [[(4, none)], [(28, some 0)], [(5, none)], [(30, some 2)], [(9, none)], [(29, some 1), (31, some 3), (32, some 4)], [(33, some 5)], [(34, some 6)]] [?b10_0, ?b10_1, ?b10_2, ?b10_3, ?b10_4, ?b10_5, ?b10_6, ?b10_6] mixed hr ?t10 ?o10 ?_
  case o10 =>
   apply oc0; intro A W hx hf
   exact ok_fieldAddr tu26 (i := 1) rfl size24 rfl (o2 s4 e_w2 hx (r0 hf))
   apply oc0; intro A W hx hf
   exact ok_arr_all tu24 size5 (adr_take hA) hA (by decide) (q0 ?b10_0 A W 28 hf)
   apply oc0; intro A W hx hf
   exact ok_fieldAddr tu26 (i := 1) rfl size24 rfl (o2 s5 e_w2 hx (r0 hf))
   apply oc0; intro A W hx hf
   exact ok_arr_all tu24 size5 (adr_take hD) hD (by decide) (q0 ?b10_2 A W 30 hf)
   apply oc0; intro A W hx hf
   exact ok_movE (a0 := a9) (r0 hf)
   apply oc0; intro A W hx hf
   exact ok_buildBss [(.tmp 29), (.tmp 31), (.tmp 32)] [_, _, _] tu107 size22 zero22 rfl rfl (by decide) (PartsOk.cons (q0 ?b10_1 A W 29 hf) (PartsOk.cons (q1 ?b10_3 A W 31 hf) (PartsOk.cons (p1 s9 hx (q2 ?b10_4 A W 32 hf)) (PartsOk.nil))))
   apply oc0; intro A W hx hf
   exact ok_call1 body34 (c_concat (q0 ?b10_5 A W 33 hf) hx.size (by simp; omega))
   apply oc0; intro A W hx hf
   exact ok_assign (q0 ?b10_6 A W 34 hf)
   exact onn
  case t10 => exact inferInstance
  clear hr; intro a11 w11 x hr hd hs
  have z_w_w9 := e_w.size
  have z_w2_w9 := e_w2.size
  clear s4 s5 s9
  have s8 := fa ?b10_6 a11 w11 8 (hd 7 8 rfl)
  replace e_w := e_w.trans x
  clear e_w2
  have e_w9 := x; clear hd hs x
  refine et ?_
  refine wp_ret ?_
  refine then_ret ?_
  refine ret_tmp Try.results90 hr e_w ?_
  first | exact OwnB.cast (OwnB.mono s8 (Nat.le_trans hB (by assumption))) (by unfold pseudoL pseudo; rw [if_pos h6]; simp) | exact OwnB.cast (OwnB.mono s8 (Nat.le_trans hB (by assumption))) (by unfold pseudoL pseudo; rw [if_neg (by rw [h6]; decide)]; simp)
 skip
 refine wp_skip ?_
 refine es ?_
 refine wp_reg 42 [[(4, none)], [(35, some 0)], [(5, none)], [(37, some 2)], [(9, none)], [(36, some 1), (38, some 3), (39, some 4)], [(40, some 5)], [(41, some 6)]] [?b12_0, ?b12_1, ?b12_2, ?b12_3, ?b12_4, ?b12_5, ?b12_6, ?b12_6] mixed hr ?t12 ?o12 ?_
 case o12 =>
  apply oc0; intro A W hx hf
  exact ok_fieldAddr tu26 (i := 1) rfl size24 rfl (o2 s4 e_w2 hx (r0 hf))
  apply oc0; intro A W hx hf
  exact ok_arr_hi 4 tu24 size5 (adr_take hA) hA (by decide) (q0 ?b12_0 A W 35 hf) (ec A (.int .i64 4)) (by first | omega | decide | (simp; done) | (simp; omega))
  apply oc0; intro A W hx hf
  exact ok_fieldAddr tu26 (i := 1) rfl size24 rfl (o2 s5 e_w2 hx (r0 hf))
  apply oc0; intro A W hx hf
  exact ok_arr_hi 4 tu24 size5 (adr_take hD) hD (by decide) (q0 ?b12_2 A W 37 hf) (ec A (.int .i64 4)) (by first | omega | decide | (simp; done) | (simp; omega))
  apply oc0; intro A W hx hf
  exact ok_movE (a0 := a6) (r0 hf)
  apply oc0; intro A W hx hf
  exact ok_buildBss [(.tmp 36), (.tmp 38), (.tmp 39)] [_, _, _] tu107 size22 zero22 rfl rfl (by decide) (PartsOk.cons (q0 ?b12_1 A W 36 hf) (PartsOk.cons (q1 ?b12_3 A W 38 hf) (PartsOk.cons (p2 s9 e_w4 hx (q2 ?b12_4 A W 39 hf)) (PartsOk.nil))))
  apply oc0; intro A W hx hf
  exact ok_call1 body34 (c_concat (q0 ?b12_5 A W 40 hf) hx.size (by simp; omega))
  apply oc0; intro A W hx hf
  exact ok_assign (q0 ?b12_6 A W 41 hf)
  exact onn
 case t12 => exact inferInstance
 clear hr; intro a13 w13 x hr hd hs
 have z_w_w6 := e_w.size
 have z_w2_w6 := e_w2.size
 have z_w4_w6 := e_w4.size
 clear s2 s3 s4 s5 s9 s19
 have s8 := fa ?b12_6 a13 w13 8 (hd 7 8 rfl)
 replace e_w := e_w.trans x
 clear e_w2
 clear e_w4
 have e_w6 := x; clear hd hs x
 refine et ?_
 refine wp_ret ?_
 refine ret_tmp Try.results90 hr e_w ?_
 first | exact OwnB.cast (OwnB.mono s8 (Nat.le_trans hB (by assumption))) (by unfold pseudoL pseudo; rw [if_pos h6]; simp) | exact OwnB.cast (OwnB.mono s8 (Nat.le_trans hB (by assumption))) (by unfold pseudoL pseudo; rw [if_neg (by rw [h6]; decide)]; simp)

end Go.Proofs.Ytpjpfmnnefgnbaa
