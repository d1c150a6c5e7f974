import Derived.Test.YtdohlcakoamdhaaC09a
import Derived.Test.YtdohlcakoamdhaaE9X
import Derived.Test.YtdohlcakoamdhaaC09f
namespace Go.Proofs.Ytdohlcakoamdhaa
open Go.RowKit
set_option linter.unusedVariables false
set_option maxRecDepth 4000
theorem c_kinds9 {w : World}    :
    Calls Try.prog 16 #[] w (Ret (Ns .i64 kindsL) w) := by
 refine enter Try.func16 rfl Try.ntmps16 (k := 0) rfl (by decide) (fun a0 hr hargs => ?_)
 clear hargs
 refine wp_seq ?_
 refine wp_reg 2 [[]] [?b1_0] mixed (by kernel_rfl) (by kernel_rfl) hr ?t1 ?o1 ?_
 case o1 =>
  refine oc0 (fun A W hx hf => ?_) ?_
  exact ok_assignv (Ns .i64 []) (fun _ => ns_nil)
  exact OpsOk.nil
 case t1 => exact inferInstance
 clear hr; intro a2 w2 x hr hd hs
 have e_w := x
 clear hd hs x
 refine exit_then ?_
 refine wp_seq ?_
 refine wp_reg 2 [[], [(1, some 0)]] [?b3_0, ?b3_0] mixed (by kernel_rfl) (by kernel_rfl) hr ?t3 ?o3 ?_
 case o3 =>
  refine oc0 (fun A W hx hf => ?_) ?_
  exact ok_buildNs [(.const (.int .i64 0)), (.const (.int .i64 43)), (.const (.int .i64 60)), (.const (.int .i64 51)), (.const (.int .i64 44))] [_, _, _, _, _] Try.underlying44 size3 zero3 rfl rfl (by decide) (PartsOk.cons (show Is (.int .i64 0) _ _ from rfl) (PartsOk.cons (show Is (.int .i64 43) _ _ from rfl) (PartsOk.cons (show Is (.int .i64 60) _ _ from rfl) (PartsOk.cons (show Is (.int .i64 51) _ _ from rfl) (PartsOk.cons (show Is (.int .i64 44) _ _ from rfl) (PartsOk.nil))))))
  refine oc0 (fun A W hx hf => ?_) ?_
  exact ok_assign (q0 ?b3_0 A W 1 hf)
  exact OpsOk.nil
 case t3 => exact inferInstance
 clear hr; intro a4 w4 x hr hd hs
 have s0 := fa ?b3_0 a4 w4 0 (hd 1 0 rfl)
 replace e_w := e_w.trans x
 clear hd hs x
 refine exit_then ?_
 refine wp_ret ?_
 refine ret_tmp Try.results16 hr e_w ?_
 exact s0

def D_c_laid9_0 : List Tmp := [6, 7, 8, 9, 10, 11, 16, 17, 18, 19, 20, 21, 22, 23, 24, 25, 26, 27, 28, 29, 30, 31, 32, 33, 34, 35, 36, 37, 38, 39, 40, 41, 42, 43, 44, 45, 46, 47, 48, 49, 50, 51, 52, 53, 54, 55, 56, 57, 58, 59, 60, 61, 62, 63, 64, 65, 66, 67, 68, 69, 70, 71, 72, 73, 74, 75, 76, 77, 78, 79, 80, 81, 82, 83, 84, 85, 86, 87, 88, 89, 90]
def D_c_laid9_1 : List Tmp := [10, 32, 33, 34, 35, 36, 37, 38, 39, 40, 41, 42, 43, 44, 45, 46, 47, 48, 49, 50, 51]
def D_c_laid9_2 : List Tmp := [60, 61, 62, 63, 64, 65, 66, 67, 68, 69, 70, 71, 72, 73, 74, 75, 76, 77, 78, 79, 80, 81, 82, 83, 84]
set_option maxHeartbeats 1000000 in
theorem c_laid9 {x0 x1 : Value} {w : World} {l : List ExtL} {p : Int} {B : Nat} (h0 : (Rw extR l) x0 w) (h1 : (Is (.int .i64 p)) x1 w) (hx9 : ∀ x ∈ l, ExtOk x) (hn9 : l.length ≤ 100) (hp9 : 0 ≤ p ∧ p ≤ 255) (hB : B ≤ w.heap.size) :
    Calls Try.prog 28 #[x0, x1] w (Ret (Tup2 (Is (.int .i64 (laidE l p).1)) (OwnB B 5 (laidE l p).2)) w) := by
 refine enter Try.func28 rfl Try.ntmps28 (k := 2) rfl (by decide) (fun a0 hr hargs => ?_)
 have s0 := sarg h0 (hargs 0 (by decide))
 have s1 := sarg h1 (hargs 1 (by decide))
 clear hargs
 refine wp_seq ?_
 refine wp_reg 93 [[], []] [?b1_0, ?b1_1] mixed (by kernel_rfl) (by kernel_rfl) hr ?t1 ?o1 ?_
 case o1 =>
  refine oc0 (fun A W hx hf => ?_) ?_
  exact ok_assignc
  refine oc0 (fun A W hx hf => ?_) ?_
  exact ok_assignv (OwnBA 0 w.heap.size 5 []) (fun _ => ownBA_nil)
  exact OpsOk.nil
 case t1 => exact inferInstance
 clear hr; intro a2 w2 x hr hd hs
 revert s1; revert s0; refine kp2 hs rfl ?_; intro s0 s1
 have e_w := x
 clear hd hs x
 refine exit_then ?_
 refine wp_seq ?_
 refine wp_reg 93 [[(1, none)], [(12, some 0)]] [?b3_0, ?b3_0] mixed (by kernel_rfl) (by kernel_rfl) hr ?t3 ?o3 ?_
 case o3 =>
  refine oc0 (fun A W hx hf => ?_) ?_
  exact ok_movE (a0 := a2) (r0 hf)
  refine oc0 (fun A W hx hf => ?_) ?_
  exact ok_assign (q0 ?b3_0 A W 12 hf)
  exact OpsOk.nil
 case t3 => exact inferInstance
 clear hr; intro a4 w4 x hr hd hs
 have u6 := mv s1 (fa ?b3_0 a4 w4 6 (hd 1 6 rfl))
 revert s0; refine kp1 hs rfl ?_; intro s0
 clear s1
 have s6 := u6; clear u6
 replace e_w := e_w.trans x
 clear hd hs x
 refine exit_then ?_
 refine wp_seq ?_
 refine wp_reg 93 [[]] [?b5_0] mixed (by kernel_rfl) (by kernel_rfl) hr ?t5 ?o5 ?_
 case o5 =>
  refine oc0 (fun A W hx hf => ?_) ?_
  exact ok_assignv (OwnBA 0 w.heap.size 5 []) (fun _ => ownBA_nil)
  exact OpsOk.nil
 case t5 => exact inferInstance
 clear hr; intro a6 w6 x hr hd hs
 revert s6; revert s0; refine kp2 hs rfl ?_; intro s0 s6
 have s7 := fa ?b5_0 a6 w6 7 (hd 0 7 rfl)
 replace e_w := e_w.trans x
 clear hd hs x
 refine exit_then ?_
 refine wp_seq ?_
 refine wp_seq ?_
 refine wp_reg 93 [[(0, none)], [(13, some 0)], [(14, some 1)], [(15, some 2)]] [?b7_0, ?b7_1, ?b7_2, ?b7_2] mixed (by kernel_rfl) (by kernel_rfl) hr ?t7 ?o7 ?_
 case o7 =>
  refine oc0 (fun A W hx hf => ?_) ?_
  exact ok_movE (a0 := a6) (r0 hf)
  refine oc0 (fun A W hx hf => ?_) ?_
  exact ok_len_rw Try.underlying40 (p2 s0 e_w hx (q0 ?b7_0 A W 13 hf))
  refine oc0 (fun A W hx hf => ?_) ?_
  exact ok_subI (q0 ?b7_1 A W 14 hf) (ec A (.int .i64 1)) (by omega)
  refine oc0 (fun A W hx hf => ?_) ?_
  exact ok_assign (q0 ?b7_2 A W 15 hf)
  exact OpsOk.nil
 case t7 => exact inferInstance
 clear hr; intro a8 w8 x hr hd hs
 revert s7; revert s6; revert s0; refine kp3 hs rfl ?_; intro s0 s6 s7
 have s8 := fa ?b7_2 a8 w8 8 (hd 3 8 rfl)
 replace e_w := e_w.trans x
 have e_w6 := x
 clear hd hs x
 refine exit_then ?_
 refine wp_block ?_
 refine wp_loop_inv (fun n A W => ∃ (i β : Nat), n = i ∧ Fr 93 A ∧ Same D_c_laid9_0 a8 A ∧ Ext w W ∧ (i ≤ l.length) ∧ (Is (.int .i64 (laidE (l.drop i) p).1)) (A.eval (.tmp 6)) W ∧ (OwnBA β w.heap.size 5 (laidE (l.drop i) p).2) (A.eval (.tmp 7)) W ∧ (Is (.int .i64 ((i : Int) - 1))) (A.eval (.tmp 8)) W) ?start9 ?_
 case start9 =>
  refine ⟨_, l.length, 0, rfl, hr, Same.rfl, e_w, (by first | assumption | omega), ?_, ?_, ?_⟩
  · exact Is.int (later e_w s6) (by simp [laidE])
  · exact OwnBA.cast (later e_w6 s7) (by simp [laidE])
  · first | exact s8 | exact Is.int s8 (by first | omega | simp) | exact Is.bool s8 (by first | omega | simp)
 intro n9 a9 w9 hI
 clear e_w
 clear e_w6
 clear hr; obtain ⟨i, β, hn9, hr, hs, e_w, hi, u6, u7, u8⟩ := hI
 revert s0; refine kp1 hs rfl ?_; intro s0
 clear s6 s7 s8
 have s6 := u6; clear u6
 have s7 := u7; clear u7
 have s8 := u8; clear u8
 have m9 := hs; clear hs
 refine wp_seq ?_
 refine wp_seq ?_
 refine wp_reg 93 [[(8, none)], [(16, some 0)]] [?b10_0, ?b10_1] mixed (by kernel_rfl) (by kernel_rfl) hr ?t10 ?o10 ?_
 case o10 =>
  refine oc0 (fun A W hx hf => ?_) ?_
  exact ok_movE (a0 := a9) (r0 hf)
  refine oc0 (fun A W hx hf => ?_) ?_
  exact ok_geq (p1 s8 hx (q0 ?b10_0 A W 16 hf)) (ec A (.int .i64 0))
  exact OpsOk.nil
 case t10 => exact inferInstance
 clear hr; intro a11 w11 x hr hd hs
 revert s8; revert s7; revert s6; revert s0; refine kp4 hs rfl ?_; intro s0 s6 s7 s8
 have s17 := fa ?b10_1 a11 w11 17 (hd 1 17 rfl)
 replace e_w := e_w.trans x
 have e_w9 := x
 replace m9 := m9.tr hs rfl
 clear hd hs x
 refine exit_then ?_
 refine wp_cond_split (show _ = _ from s17) (fun hge => ?_) (fun hge => ?_)
 · skip
   obtain ⟨j, rfl⟩ : ∃ j, i = j + 1 := ⟨i - 1, by simp at hge; omega⟩
   have hjl : j < l.length := by omega
   have hXo := hx9 _ (List.getElem_mem hjl)
   have hxi := ixE_lt (l[j]'hjl)
   have hxu := unitE_lt (l[j]'hjl)
   have hbl := lenE_bd (l[j]'hjl)
   have hfs := laidE_fst (l := l.drop (j + 1)) hp9
   obtain ⟨hxa, hxb⟩ := hXo
   refine wp_skip ?_
   refine exit_then ?_
   refine wp_seq ?_
   refine wp_block ?_
   refine wp_seq ?_
   refine wp_reg 93 [[], [(0, none)], [(8, none)], [(21, some 1), (22, some 2)], [(23, some 3)], [(24, some 4)], [(25, some 5)], [(26, some 6)], [(20, some 0), (27, some 7)], [(28, some 8)], [(29, some 9)]] [?b13_0, ?b13_1, ?b13_2, ?b13_3, ?b13_4, ?b13_5, ?b13_6, ?b13_7, ?b13_8, ?b13_9, ?b13_9] mixed (by kernel_rfl) (by kernel_rfl) hr ?t13 ?o13 ?_
   case o13 =>
    refine oc0 (fun A W hx hf => ?_) ?_
    exact ok_call0 body16 (c_kinds9 )
    refine oc0 (fun A W hx hf => ?_) ?_
    exact ok_movE (a0 := a11) (r0 hf)
    refine oc0 (fun A W hx hf => ?_) ?_
    exact ok_movE (a0 := a11) (r0 hf)
    refine oc0 (fun A W hx hf => ?_) ?_
    exact ok_index_rw (j) Try.underlying40 size43 (p2 s0 e_w hx (q0 ?b13_1 A W 21 hf)) (Is.int (p2 s8 e_w9 hx (q1 ?b13_2 A W 22 hf)) (by omega)) (by omega)
    refine oc0 (fun A W hx hf => ?_) ?_
    exact ok_fieldAddr Try.underlying43 (i := 0) rfl size5 rfl (q0 ?b13_3 A W 23 hf)
    refine oc0 (fun A W hx hf => ?_) ?_
    exact ok_loadc Try.underlying5 rfl (q0 ?b13_4 A W 24 hf)
    refine oc0 (fun A W hx hf => ?_) ?_
    exact ok_rem (by decide) (q0 ?b13_5 A W 25 hf) (ec A (.int .u8 5))
    refine oc0 (fun A W hx hf => ?_) ?_
    exact ok_convI Try.underlying5 Try.underlying3 (by rw [kind_mod]; exact IntWalk.i64_in _ (by omega)) (q0 ?b13_6 A W 26 hf)
    refine oc0 (fun A W hx hf => ?_) ?_
    exact ok_index_ns (ixE (l[j]'hjl)) Try.underlying44 size3 (q0 ?b13_0 A W 20 hf) (Is.int (q1 ?b13_7 A W 27 hf) (by rw [kind_mod])) (by show _ < 5; omega)
    refine oc0 (fun A W hx hf => ?_) ?_
    exact ok_loadp Try.underlying3 rfl (q0 ?b13_8 A W 28 hf)
    refine oc0 (fun A W hx hf => ?_) ?_
    exact ok_assign (q0 ?b13_9 A W 29 hf)
    exact OpsOk.nil
   case t13 => exact inferInstance
   clear hr; intro a14 w14 x hr hd hs
   revert s8; revert s7; revert s6; revert s0; refine kp4 hs rfl ?_; intro s0 s6 s7 s8
   clear s17
   have s9 := fa ?b13_9 a14 w14 9 (hd 10 9 rfl)
   replace e_w := e_w.trans x
   replace e_w9 := e_w9.trans x
   replace m9 := m9.tr hs rfl
   clear hd hs x
   replace s9 := Is.int s9 (show _ = kindE (l[j]'hjl) from kindE_get _)
   refine exit_then ?_
   refine wp_seq ?_
   refine wp_reg 93 [[]] [?b15_0] mixed (by kernel_rfl) (by kernel_rfl) hr ?t15 ?o15 ?_
   case o15 =>
    refine oc0 (fun A W hx hf => ?_) ?_
    exact ok_assignc
    exact OpsOk.nil
   case t15 => exact inferInstance
   clear hr; intro a16 w16 x hr hd hs
   revert s9; revert s8; revert s7; revert s6; revert s0; refine kp5 hs rfl ?_; intro s0 s6 s7 s8 s9
   have s10 := fa ?b15_0 a16 w16 10 (hd 0 10 rfl)
   replace e_w := e_w.trans x
   replace e_w9 := e_w9.trans x
   have e_w14 := x
   replace m9 := m9.tr hs rfl
   clear hd hs x
   refine exit_then ?_
   refine wp_seq ?_
   refine wp_seq ?_
   refine wp_reg 93 [[(9, none)], [(30, some 0)]] [?b17_0, ?b17_1] mixed (by kernel_rfl) (by kernel_rfl) hr ?t17 ?o17 ?_
   case o17 =>
    refine oc0 (fun A W hx hf => ?_) ?_
    exact ok_movE (a0 := a16) (r0 hf)
    refine oc0 (fun A W hx hf => ?_) ?_
    exact ok_eql (p2 s9 e_w14 hx (q0 ?b17_0 A W 30 hf)) (ec A (.int .i64 51))
    exact OpsOk.nil
   case t17 => exact inferInstance
   clear hr; intro a18 w18 x hr hd hs
   revert s10; revert s9; revert s8; revert s7; revert s6; revert s0; refine kp6 hs rfl ?_; intro s0 s6 s7 s8 s9 s10
   have s31 := fa ?b17_1 a18 w18 31 (hd 1 31 rfl)
   replace e_w := e_w.trans x
   replace e_w9 := e_w9.trans x
   replace e_w14 := e_w14.trans x
   have e_w16 := x
   replace m9 := m9.tr hs rfl
   clear hd hs x
   refine exit_then ?_
   refine wp_cut (fun A W => Fr 93 A ∧ Same D_c_laid9_1 a18 A ∧ Ext w W ∧ Ext w9 W ∧ Ext w14 W ∧ (Is (.int .i64 (lenE (l[j]'hjl) : Int))) (A.eval (.tmp 10)) W) ?cut19 ?_
   case cut19 =>
    have m19 : Same D_c_laid9_1 a18 a18 := Same.rfl
    refine wp_cond_split (show _ = _ from s31) (fun h51 => ?_) (fun h51 => ?_)
    · skip
      have h51 : kindE (l[j]'hjl) = 51 := by simpa using h51
      refine wp_reg 93 [[(0, none)], [(8, none)], [(32, some 0), (33, some 1)], [(34, some 2)], [(35, some 3)], [(36, some 4)], [(37, some 5)], [(38, some 6)], [(39, some 7)], [(40, some 8)]] [?b21_0, ?b21_1, ?b21_2, ?b21_3, ?b21_4, ?b21_5, ?b21_6, ?b21_7, ?b21_8, ?b21_8] mixed (by kernel_rfl) (by kernel_rfl) hr ?t21 ?o21 ?_
      case o21 =>
       refine oc0 (fun A W hx hf => ?_) ?_
       exact ok_movE (a0 := a18) (r0 hf)
       refine oc0 (fun A W hx hf => ?_) ?_
       exact ok_movE (a0 := a18) (r0 hf)
       refine oc0 (fun A W hx hf => ?_) ?_
       exact ok_index_rw (j) Try.underlying40 size43 (p2 s0 e_w hx (q0 ?b21_0 A W 32 hf)) (Is.int (p2 s8 e_w9 hx (q1 ?b21_1 A W 33 hf)) (by omega)) (by omega)
       refine oc0 (fun A W hx hf => ?_) ?_
       exact ok_fieldAddr Try.underlying43 (i := 1) rfl size5 rfl (q0 ?b21_2 A W 34 hf)
       refine oc0 (fun A W hx hf => ?_) ?_
       exact ok_loadc Try.underlying5 rfl (q0 ?b21_3 A W 35 hf)
       refine oc0 (fun A W hx hf => ?_) ?_
       exact ok_rem (by decide) (q0 ?b21_4 A W 36 hf) (ec A (.int .u8 3))
       refine oc0 (fun A W hx hf => ?_) ?_
       exact ok_convI Try.underlying5 Try.underlying3 (by rw [unit_mod]; exact IntWalk.i64_in _ (by omega)) (q0 ?b21_5 A W 37 hf)
       refine oc0 (fun A W hx hf => ?_) ?_
       exact ok_mulI (ec A (.int .i64 4)) (q0 ?b21_6 A W 38 hf) (by rw [unit_mod]; omega)
       refine oc0 (fun A W hx hf => ?_) ?_
       exact ok_addI (ec A (.int .i64 8)) (q0 ?b21_7 A W 39 hf) (by rw [unit_mod]; omega)
       refine oc0 (fun A W hx hf => ?_) ?_
       exact ok_assign (q0 ?b21_8 A W 40 hf)
       exact OpsOk.nil
      case t21 => exact inferInstance
      clear hr; intro a22 w22 x hr hd hs
      revert s9; revert s8; revert s7; revert s6; revert s0; refine kp5 hs rfl ?_; intro s0 s6 s7 s8 s9
      clear s10 s31
      have s10 := fa ?b21_8 a22 w22 10 (hd 9 10 rfl)
      replace e_w := e_w.trans x
      replace e_w9 := e_w9.trans x
      replace e_w14 := e_w14.trans x
      clear e_w16
      replace m9 := m9.tr hs rfl
      replace m19 := m19.tr hs rfl
      clear hd hs x
      refine exit_then ?_
      refine ⟨hr, m19, e_w, e_w9, e_w14, ?_⟩
      · first | exact Is.int s10 (by rw [unit_mod]; exact len_51 h51) | exact Is.int s10 (by rw [unit_mod]; exact len_8 h51 h44) | exact Is.int s10 (len_44 h51 h44)
    · skip
      have h51 : kindE (l[j]'hjl) ≠ 51 := by simpa using h51
      refine wp_seq ?_
      refine wp_reg 93 [[(9, none)], [(41, some 0)]] [?b23_0, ?b23_1] mixed (by kernel_rfl) (by kernel_rfl) hr ?t23 ?o23 ?_
      case o23 =>
       refine oc0 (fun A W hx hf => ?_) ?_
       exact ok_movE (a0 := a18) (r0 hf)
       refine oc0 (fun A W hx hf => ?_) ?_
       exact ok_neq (p2 s9 e_w14 hx (q0 ?b23_0 A W 41 hf)) (ec A (.int .i64 44))
       exact OpsOk.nil
      case t23 => exact inferInstance
      clear hr; intro a24 w24 x hr hd hs
      revert s10; revert s9; revert s8; revert s7; revert s6; revert s0; refine kp6 hs rfl ?_; intro s0 s6 s7 s8 s9 s10
      clear s31
      have s42 := fa ?b23_1 a24 w24 42 (hd 1 42 rfl)
      replace e_w := e_w.trans x
      replace e_w9 := e_w9.trans x
      replace e_w14 := e_w14.trans x
      replace e_w16 := e_w16.trans x
      replace m9 := m9.tr hs rfl
      replace m19 := m19.tr hs rfl
      clear hd hs x
      refine exit_then ?_
      refine wp_cond_split (show _ = _ from s42) (fun h44 => ?_) (fun h44 => ?_)
      · skip
        have h44 : kindE (l[j]'hjl) ≠ 44 := by simpa using h44
        refine wp_reg 93 [[(0, none)], [(8, none)], [(43, some 0), (44, some 1)], [(45, some 2)], [(46, some 3)], [(47, some 4)], [(48, some 5)], [(49, some 6)], [(50, some 7)], [(51, some 8)]] [?b26_0, ?b26_1, ?b26_2, ?b26_3, ?b26_4, ?b26_5, ?b26_6, ?b26_7, ?b26_8, ?b26_8] mixed (by kernel_rfl) (by kernel_rfl) hr ?t26 ?o26 ?_
        case o26 =>
         refine oc0 (fun A W hx hf => ?_) ?_
         exact ok_movE (a0 := a24) (r0 hf)
         refine oc0 (fun A W hx hf => ?_) ?_
         exact ok_movE (a0 := a24) (r0 hf)
         refine oc0 (fun A W hx hf => ?_) ?_
         exact ok_index_rw (j) Try.underlying40 size43 (p2 s0 e_w hx (q0 ?b26_0 A W 43 hf)) (Is.int (p2 s8 e_w9 hx (q1 ?b26_1 A W 44 hf)) (by omega)) (by omega)
         refine oc0 (fun A W hx hf => ?_) ?_
         exact ok_fieldAddr Try.underlying43 (i := 1) rfl size5 rfl (q0 ?b26_2 A W 45 hf)
         refine oc0 (fun A W hx hf => ?_) ?_
         exact ok_loadc Try.underlying5 rfl (q0 ?b26_3 A W 46 hf)
         refine oc0 (fun A W hx hf => ?_) ?_
         exact ok_rem (by decide) (q0 ?b26_4 A W 47 hf) (ec A (.int .u8 3))
         refine oc0 (fun A W hx hf => ?_) ?_
         exact ok_convI Try.underlying5 Try.underlying3 (by rw [unit_mod]; exact IntWalk.i64_in _ (by omega)) (q0 ?b26_5 A W 48 hf)
         refine oc0 (fun A W hx hf => ?_) ?_
         exact ok_mulI (ec A (.int .i64 8)) (q0 ?b26_6 A W 49 hf) (by rw [unit_mod]; omega)
         refine oc0 (fun A W hx hf => ?_) ?_
         exact ok_addI (ec A (.int .i64 8)) (q0 ?b26_7 A W 50 hf) (by rw [unit_mod]; omega)
         refine oc0 (fun A W hx hf => ?_) ?_
         exact ok_assign (q0 ?b26_8 A W 51 hf)
         exact OpsOk.nil
        case t26 => exact inferInstance
        clear hr; intro a27 w27 x hr hd hs
        revert s9; revert s8; revert s7; revert s6; revert s0; refine kp5 hs rfl ?_; intro s0 s6 s7 s8 s9
        clear s10 s42
        have s10 := fa ?b26_8 a27 w27 10 (hd 9 10 rfl)
        replace e_w := e_w.trans x
        replace e_w9 := e_w9.trans x
        replace e_w14 := e_w14.trans x
        clear e_w16
        replace m9 := m9.tr hs rfl
        replace m19 := m19.tr hs rfl
        clear hd hs x
        refine exit_then ?_
        refine ⟨hr, m19, e_w, e_w9, e_w14, ?_⟩
        · first | exact Is.int s10 (by rw [unit_mod]; exact len_51 h51) | exact Is.int s10 (by rw [unit_mod]; exact len_8 h51 h44) | exact Is.int s10 (len_44 h51 h44)
      · skip
        have h44 : ¬ kindE (l[j]'hjl) ≠ 44 := by simpa using h44
        refine wp_skip ?_
        refine exit_then ?_
        refine ⟨hr, m19, e_w, e_w9, e_w14, ?_⟩
        · first | exact Is.int (later e_w16 s10) (by rw [unit_mod]; exact len_51 h51) | exact Is.int (later e_w16 s10) (by rw [unit_mod]; exact len_8 h51 h44) | exact Is.int (later e_w16 s10) (len_44 h51 h44)
   intro a19 w19 hI
   clear e_w
   clear e_w9
   clear e_w14
   clear e_w16
   clear hr; obtain ⟨hr, hs, e_w, e_w9, e_w14, u10⟩ := hI
   revert s9; revert s8; revert s7; revert s6; revert s0; refine kp5 hs rfl ?_; intro s0 s6 s7 s8 s9
   clear s10 s31
   have s10 := u10; clear u10
   replace m9 := m9.tr hs rfl
   clear hs
   refine wp_seq ?_
   refine wp_reg 93 [[(10, none)], [(52, some 0)], [(53, some 1)]] [?b28_0, ?b28_1, ?b28_1] mixed (by kernel_rfl) (by kernel_rfl) hr ?t28 ?o28 ?_
   case o28 =>
    refine oc0 (fun A W hx hf => ?_) ?_
    exact ok_movE (a0 := a19) (r0 hf)
    refine oc0 (fun A W hx hf => ?_) ?_
    exact ok_makeBs (n := lenE (l[j]'hjl)) Try.underlying22 info5 (p1 s10 hx (q0 ?b28_0 A W 52 hf)) (p1 s10 hx (q0 ?b28_0 A W 52 hf)) (by omega) hx.size
    refine oc0 (fun A W hx hf => ?_) ?_
    exact ok_assign (q0 ?b28_1 A W 53 hf)
    exact OpsOk.nil
   case t28 => exact inferInstance
   clear hr; intro a29 w29 x hr hd hs
   have z_w_w19 := e_w.size
   have z_w9_w19 := e_w9.size
   have z_w14_w19 := e_w14.size
   have l29_7 := OwnBA.lt (later e_w9 s7)
   revert s9; revert s8; revert s7; revert s6; revert s0; refine kp5 hs rfl ?_; intro s0 s6 s7 s8 s9
   clear s10
   have s11 := fa ?b28_1 a29 w29 11 (hd 2 11 rfl)
   obtain ⟨g29_11, q29_11⟩ := OwnB.at s11; clear s11; have n29_11 := OwnBA.lt q29_11
   replace q29_11 := OwnBA.mono q29_11 e_w.size
   have s11 := q29_11; clear q29_11
   replace e_w := e_w.trans x
   replace e_w9 := e_w9.trans x
   replace e_w14 := e_w14.trans x
   replace m9 := m9.tr hs rfl
   clear hd hs x
   refine exit_then ?_
   refine wp_seq ?_
   refine wp_reg_pre (l := [_, _, _, _]) (rest := [_]) 93 [[(11, none)], [(6, none)], [(55, some 1)], [(54, some 0)]] [?b30_0, ?b30_1, ?b30_2, ?b30_3] (by kernel_rfl) (by kernel_rfl) hr ?t30 ?o30 ?_
   case o30 =>
    refine oc0 (fun A W hx hf => ?_) ?_
    exact ok_movE (a0 := a29) (r0 hf)
    refine oc0 (fun A W hx hf => ?_) ?_
    exact ok_movE (a0 := a29) (r0 hf)
    refine oc0 (fun A W hx hf => ?_) ?_
    exact ok_conv8 Try.underlying3 Try.underlying5 (p2 s6 e_w9 hx (q0 ?b30_1 A W 55 hf))
    refine oc0 (fun A W hx hf => ?_) ?_
    exact ok_indexA (0) Try.underlying22 size5 (p1 s11 hx (q0 ?b30_0 A W 54 hf)) (ec A (.int .i64 0)) (by simp; omega)
    exact OpsOk.nil
   case t30 => exact inferInstance
   clear hr; intro a31 w31 x hr hd hs
   revert s11; revert s9; revert s8; revert s7; revert s0; refine kp5 hs rfl ?_; intro s0 s7 s8 s9 s11
   clear s6
   have s56 := fa ?b30_2 a31 w31 56 (hd 2 56 rfl)
   have s57 := fa ?b30_3 a31 w31 57 (hd 3 57 rfl)
   replace e_w := e_w.trans x
   replace e_w9 := e_w9.trans x
   replace e_w14 := e_w14.trans x
   have e_w29 := x
   replace m9 := m9.tr hs rfl
   clear hd hs x
   have z32 := EpA.lt s57
   have l32 := (show (g29_11 = 0 ∨ w.heap.size < g29_11) ∧ True from ⟨by omega, trivial⟩)
   have l32_7 := OwnBA.lt (later e_w9 s7)
   refine wl_storeA hr size5 s57 s56 ?_; clear hr; intro a32 w32 hc hu hr hs
   have hb : Below w.heap.size w31 w32 := hc.below e_w.size l32.1
   revert s11; revert s9; revert s8; revert s7; revert s0; refine kp5 hs rfl ?_; intro s0 s7 s8 s9 s11
   clear s56 s57
   replace s7 := OwnBA.other (later e_w9 s7) hc (by omega)
   replace s11 := hu _ _ _ (later e_w29 s11)
   replace e_w := e_w.below (Nat.le_refl _) hb
   clear e_w9
   clear e_w14
   clear e_w29
   replace s8 := anyw (w2 := w32) s8
   replace s9 := anyw (w2 := w32) s9
   replace m9 := m9.tr hs rfl
   clear hu hs hc hb
   refine wpList_nil ?_
   refine exit_then ?_
   refine wp_seq ?_
   refine wp_seq ?_
   refine wp_reg 93 [[(9, none)], [(58, some 0)]] [?b33_0, ?b33_1] mixed (by kernel_rfl) (by kernel_rfl) hr ?t33 ?o33 ?_
   case o33 =>
    refine oc0 (fun A W hx hf => ?_) ?_
    exact ok_movE (a0 := a32) (r0 hf)
    refine oc0 (fun A W hx hf => ?_) ?_
    exact ok_eql (p1 s9 hx (q0 ?b33_0 A W 58 hf)) (ec A (.int .i64 44))
    exact OpsOk.nil
   case t33 => exact inferInstance
   clear hr; intro a34 w34 x hr hd hs
   revert s9; revert s8; revert s11; revert s7; revert s0; refine kp5 hs rfl ?_; intro s0 s7 s11 s8 s9
   have s59 := fa ?b33_1 a34 w34 59 (hd 1 59 rfl)
   replace e_w := e_w.trans x
   have e_w32 := x
   replace m9 := m9.tr hs rfl
   clear hd hs x
   refine exit_then ?_
   refine wp_cut (fun A W => Fr 93 A ∧ Same D_c_laid9_2 a34 A ∧ Ext w W ∧ (OwnBA β w.heap.size 5 (laidE (l.drop (j + 1)) p).2) (A.eval (.tmp 7)) W ∧ (OwnBA g29_11 w.heap.size 5 (bytesE (laidE (l.drop (j + 1)) p).1 (l[j]'hjl))) (A.eval (.tmp 11)) W) ?cut35 ?_
   case cut35 =>
    have m35 : Same D_c_laid9_2 a34 a34 := Same.rfl
    refine wp_cond_split (show _ = _ from s59) (fun h44b => ?_) (fun h44b => ?_)
    · skip
      have h44b : kindE (l[j]'hjl) = 44 := by simpa using h44b
      refine wp_seq ?_
      refine wp_reg_pre (l := [_, _, _, _, _, _, _, _, _]) (rest := [_]) 93 [[(11, none)], [(0, none)], [(8, none)], [(61, some 1), (62, some 2)], [(63, some 3)], [(64, some 4)], [(65, some 5)], [(66, some 6)], [(60, some 0)]] [?b37_0, ?b37_1, ?b37_2, ?b37_3, ?b37_4, ?b37_5, ?b37_6, ?b37_7, ?b37_8] (by kernel_rfl) (by kernel_rfl) hr ?t37 ?o37 ?_
      case o37 =>
       refine oc0 (fun A W hx hf => ?_) ?_
       exact ok_movE (a0 := a34) (r0 hf)
       refine oc0 (fun A W hx hf => ?_) ?_
       exact ok_movE (a0 := a34) (r0 hf)
       refine oc0 (fun A W hx hf => ?_) ?_
       exact ok_movE (a0 := a34) (r0 hf)
       refine oc0 (fun A W hx hf => ?_) ?_
       exact ok_index_rw (j) Try.underlying40 size43 (p2 s0 e_w hx (q0 ?b37_1 A W 61 hf)) (Is.int (p2 s8 e_w32 hx (q1 ?b37_2 A W 62 hf)) (by omega)) (by omega)
       refine oc0 (fun A W hx hf => ?_) ?_
       exact ok_fieldAddr Try.underlying43 (i := 2) rfl size41 rfl (q0 ?b37_3 A W 63 hf)
       refine oc0 (fun A W hx hf => ?_) ?_
       exact ok_loadc Try.underlying41 rfl (q0 ?b37_4 A W 64 hf)
       refine oc0 (fun A W hx hf => ?_) ?_
       exact ok_shr 8 (by decide) (q0 ?b37_5 A W 65 hf) (ec A (.int .u64 8))
       refine oc0 (fun A W hx hf => ?_) ?_
       exact ok_conv8 Try.underlying41 Try.underlying5 (q0 ?b37_6 A W 66 hf)
       refine oc0 (fun A W hx hf => ?_) ?_
       exact ok_indexA (2) Try.underlying22 size5 (p2 s11 e_w32 hx (q0 ?b37_0 A W 60 hf)) (ec A (.int .i64 2)) (by simp; omega)
       exact OpsOk.nil
      case t37 => exact inferInstance
      clear hr; intro a38 w38 x hr hd hs
      revert s9; revert s8; revert s11; revert s7; revert s0; refine kp5 hs rfl ?_; intro s0 s7 s11 s8 s9
      clear s59
      have s67 := fa ?b37_7 a38 w38 67 (hd 7 67 rfl)
      have s68 := fa ?b37_8 a38 w38 68 (hd 8 68 rfl)
      replace e_w := e_w.trans x
      replace e_w32 := e_w32.trans x
      replace m9 := m9.tr hs rfl
      replace m35 := m35.tr hs rfl
      clear hd hs x
      have z39 := EpA.lt s68
      have l39 := (show (g29_11 = 0 ∨ w.heap.size < g29_11) ∧ True from ⟨by omega, trivial⟩)
      have l39_7 := OwnBA.lt (later e_w32 s7)
      refine wl_storeA hr size5 s68 s67 ?_; clear hr; intro a39 w39 hc hu hr hs
      have hb : Below w.heap.size w38 w39 := hc.below e_w.size l39.1
      revert s9; revert s8; revert s11; revert s7; revert s0; refine kp5 hs rfl ?_; intro s0 s7 s11 s8 s9
      clear s67 s68
      replace s7 := OwnBA.other (later e_w32 s7) hc (by omega)
      replace s11 := hu _ _ _ (later e_w32 s11)
      replace e_w := e_w.below (Nat.le_refl _) hb
      clear e_w32
      replace s8 := anyw (w2 := w39) s8
      replace s9 := anyw (w2 := w39) s9
      replace m9 := m9.tr hs rfl
      replace m35 := m35.tr hs rfl
      clear hu hs hc hb
      refine wpList_nil ?_
      refine exit_then ?_
      refine wp_reg_pre (l := [_, _, _, _, _, _, _, _]) (rest := [_]) 93 [[(11, none)], [(0, none)], [(8, none)], [(70, some 1), (71, some 2)], [(72, some 3)], [(73, some 4)], [(74, some 5)], [(69, some 0)]] [?b40_0, ?b40_1, ?b40_2, ?b40_3, ?b40_4, ?b40_5, ?b40_6, ?b40_7] (by kernel_rfl) (by kernel_rfl) hr ?t40 ?o40 ?_
      case o40 =>
       refine oc0 (fun A W hx hf => ?_) ?_
       exact ok_movE (a0 := a39) (r0 hf)
       refine oc0 (fun A W hx hf => ?_) ?_
       exact ok_movE (a0 := a39) (r0 hf)
       refine oc0 (fun A W hx hf => ?_) ?_
       exact ok_movE (a0 := a39) (r0 hf)
       refine oc0 (fun A W hx hf => ?_) ?_
       exact ok_index_rw (j) Try.underlying40 size43 (p2 s0 e_w hx (q0 ?b40_1 A W 70 hf)) (Is.int (p1 s8 hx (q1 ?b40_2 A W 71 hf)) (by omega)) (by omega)
       refine oc0 (fun A W hx hf => ?_) ?_
       exact ok_fieldAddr Try.underlying43 (i := 2) rfl size41 rfl (q0 ?b40_3 A W 72 hf)
       refine oc0 (fun A W hx hf => ?_) ?_
       exact ok_loadc Try.underlying41 rfl (q0 ?b40_4 A W 73 hf)
       refine oc0 (fun A W hx hf => ?_) ?_
       exact ok_conv8 Try.underlying41 Try.underlying5 (q0 ?b40_5 A W 74 hf)
       refine oc0 (fun A W hx hf => ?_) ?_
       exact ok_indexA (3) Try.underlying22 size5 (p1 s11 hx (q0 ?b40_0 A W 69 hf)) (ec A (.int .i64 3)) (by simp; omega)
       exact OpsOk.nil
      case t40 => exact inferInstance
      clear hr; intro a41 w41 x hr hd hs
      revert s9; revert s8; revert s11; revert s7; revert s0; refine kp5 hs rfl ?_; intro s0 s7 s11 s8 s9
      have s75 := fa ?b40_6 a41 w41 75 (hd 6 75 rfl)
      have s76 := fa ?b40_7 a41 w41 76 (hd 7 76 rfl)
      replace e_w := e_w.trans x
      have e_w39 := x
      replace m9 := m9.tr hs rfl
      replace m35 := m35.tr hs rfl
      clear hd hs x
      have z42 := EpA.lt s76
      have l42 := (show (g29_11 = 0 ∨ w.heap.size < g29_11) ∧ True from ⟨by omega, trivial⟩)
      have l42_7 := OwnBA.lt (later e_w39 s7)
      refine wl_storeA hr size5 s76 s75 ?_; clear hr; intro a42 w42 hc hu hr hs
      have hb : Below w.heap.size w41 w42 := hc.below e_w.size l42.1
      revert s9; revert s8; revert s11; revert s7; revert s0; refine kp5 hs rfl ?_; intro s0 s7 s11 s8 s9
      clear s75 s76
      replace s7 := OwnBA.other (later e_w39 s7) hc (by omega)
      replace s11 := hu _ _ _ (later e_w39 s11)
      replace e_w := e_w.below (Nat.le_refl _) hb
      clear e_w39
      replace s8 := anyw (w2 := w42) s8
      replace s9 := anyw (w2 := w42) s9
      replace m9 := m9.tr hs rfl
      replace m35 := m35.tr hs rfl
      clear hu hs hc hb
      refine wpList_nil ?_
      refine exit_then ?_
      refine ⟨hr, m35, e_w, ?_, ?_⟩
      · exact s7
      · first | exact OwnBA.cast s11 (bytes_44 h44b) | exact OwnBA.cast s11 (by rw [unit_mod]; exact bytes_n44 h44b)
    · skip
      have h44b : kindE (l[j]'hjl) ≠ 44 := by simpa using h44b
      refine wp_reg_pre (l := [_, _, _, _, _, _, _, _]) (rest := [_]) 93 [[(11, none)], [(0, none)], [(8, none)], [(78, some 1), (79, some 2)], [(80, some 3)], [(81, some 4)], [(82, some 5)], [(77, some 0)]] [?b43_0, ?b43_1, ?b43_2, ?b43_3, ?b43_4, ?b43_5, ?b43_6, ?b43_7] (by kernel_rfl) (by kernel_rfl) hr ?t43 ?o43 ?_
      case o43 =>
       refine oc0 (fun A W hx hf => ?_) ?_
       exact ok_movE (a0 := a34) (r0 hf)
       refine oc0 (fun A W hx hf => ?_) ?_
       exact ok_movE (a0 := a34) (r0 hf)
       refine oc0 (fun A W hx hf => ?_) ?_
       exact ok_movE (a0 := a34) (r0 hf)
       refine oc0 (fun A W hx hf => ?_) ?_
       exact ok_index_rw (j) Try.underlying40 size43 (p2 s0 e_w hx (q0 ?b43_1 A W 78 hf)) (Is.int (p2 s8 e_w32 hx (q1 ?b43_2 A W 79 hf)) (by omega)) (by omega)
       refine oc0 (fun A W hx hf => ?_) ?_
       exact ok_fieldAddr Try.underlying43 (i := 1) rfl size5 rfl (q0 ?b43_3 A W 80 hf)
       refine oc0 (fun A W hx hf => ?_) ?_
       exact ok_loadc Try.underlying5 rfl (q0 ?b43_4 A W 81 hf)
       refine oc0 (fun A W hx hf => ?_) ?_
       exact ok_rem (by decide) (q0 ?b43_5 A W 82 hf) (ec A (.int .u8 3))
       refine oc0 (fun A W hx hf => ?_) ?_
       exact ok_indexA (1) Try.underlying22 size5 (p2 s11 e_w32 hx (q0 ?b43_0 A W 77 hf)) (ec A (.int .i64 1)) (by simp; omega)
       exact OpsOk.nil
      case t43 => exact inferInstance
      clear hr; intro a44 w44 x hr hd hs
      revert s9; revert s8; revert s11; revert s7; revert s0; refine kp5 hs rfl ?_; intro s0 s7 s11 s8 s9
      clear s59
      have s83 := fa ?b43_6 a44 w44 83 (hd 6 83 rfl)
      have s84 := fa ?b43_7 a44 w44 84 (hd 7 84 rfl)
      replace e_w := e_w.trans x
      replace e_w32 := e_w32.trans x
      replace m9 := m9.tr hs rfl
      replace m35 := m35.tr hs rfl
      clear hd hs x
      have z45 := EpA.lt s84
      have l45 := (show (g29_11 = 0 ∨ w.heap.size < g29_11) ∧ True from ⟨by omega, trivial⟩)
      have l45_7 := OwnBA.lt (later e_w32 s7)
      refine wl_storeA hr size5 s84 (ByteIs.of s83 (by rw [unit_mod]; omega)) ?_; clear hr; intro a45 w45 hc hu hr hs
      have hb : Below w.heap.size w44 w45 := hc.below e_w.size l45.1
      revert s9; revert s8; revert s11; revert s7; revert s0; refine kp5 hs rfl ?_; intro s0 s7 s11 s8 s9
      clear s83 s84
      replace s7 := OwnBA.other (later e_w32 s7) hc (by omega)
      replace s11 := hu _ _ _ (later e_w32 s11)
      replace e_w := e_w.below (Nat.le_refl _) hb
      clear e_w32
      replace s8 := anyw (w2 := w45) s8
      replace s9 := anyw (w2 := w45) s9
      replace m9 := m9.tr hs rfl
      replace m35 := m35.tr hs rfl
      clear hu hs hc hb
      refine wpList_nil ?_
      refine exit_then ?_
      refine ⟨hr, m35, e_w, ?_, ?_⟩
      · exact s7
      · first | exact OwnBA.cast s11 (bytes_44 h44b) | exact OwnBA.cast s11 (by rw [unit_mod]; exact bytes_n44 h44b)
   intro a35 w35 hI
   clear e_w
   clear e_w32
   clear hr; obtain ⟨hr, hs, e_w, u7, u11⟩ := hI
   revert s9; revert s8; revert s0; refine kp3 hs rfl ?_; intro s0 s8 s9
   clear s7 s11 s59
   have s7 := u7; clear u7
   have s11 := u11; clear u11
   replace s8 := anyw (w2 := w35) s8
   replace s9 := anyw (w2 := w35) s9
   replace m9 := m9.tr hs rfl
   clear hs
   refine wp_seq ?_
   refine wp_reg_pre (l := [_, _]) (rest := [_, _, _, _]) 93 [[], [(11, none)]] [?b46_0, ?b46_1] (by kernel_rfl) (by kernel_rfl) hr ?t46 ?o46 ?_
   case o46 =>
    refine oc0 (fun A W hx hf => ?_) ?_
    exact ok_ownBs [] [] Try.underlying22 size5 zero5 rfl rfl (by decide) hx.size (PartsOk.nil)
    refine oc0 (fun A W hx hf => ?_) ?_
    exact ok_movE (a0 := a35) (r0 hf)
    exact OpsOk.nil
   case t46 => exact inferInstance
   clear hr; intro a47 w47 x hr hd hs
   have z_w_w35 := e_w.size
   have l47_7 := OwnBA.lt s7
   have l47_11 := OwnBA.lt s11
   have u86 := mv s11 (fa ?b46_1 a47 w47 86 (hd 1 86 rfl))
   revert s9; revert s8; revert s7; revert s0; refine kp4 hs rfl ?_; intro s0 s7 s8 s9
   clear s11
   have s86 := u86; clear u86
   have s85 := fa ?b46_0 a47 w47 85 (hd 0 85 rfl)
   obtain ⟨g47_85, q47_85⟩ := OwnB.at s85; clear s85; have n47_85 := OwnBA.lt q47_85
   replace q47_85 := OwnBA.mono q47_85 e_w.size
   have s85 := q47_85; clear q47_85
   replace e_w := e_w.trans x
   have e_w35 := x
   replace m9 := m9.tr hs rfl
   clear hd hs x
   have l48 := OwnBA.lt s85
   have l48_7 := OwnBA.lt (later e_w35 s7)
   refine wl_append_bsA hr (by decide) Try.underlying22 info5 rfl s85 (OwnBA.bs (later e_w35 s86)) e_w.size (by have y9 := lensE_bd (l.drop (j + 1)); have y8 : (l.drop (j + 1)).length ≤ 100 := (by simp; omega); simp only [List.length_append, List.length_nil, bytesE_len, laidE_len]; omega) ?_; clear hr; intro g48 a48 w48 hg48 hc hr hd hs
   have hb := hc.below e_w.size l48.1
   revert s9; revert s8; revert s7; revert s0; refine kp4 hs rfl ?_; intro s0 s7 s8 s9
   clear s86 s85
   replace s7 := OwnBA.other (later e_w35 s7) hc (by omega)
   have s87 := hd
   replace e_w := e_w.below (Nat.le_refl _) hb
   clear e_w35
   replace s8 := anyw (w2 := w48) s8
   replace s9 := anyw (w2 := w48) s9
   replace m9 := m9.tr hs rfl
   clear hd hs hb hc
   refine wl_op hr (ok_move s7) inferInstance ?_; clear hr; intro a49 w49 x hr hd hs
   revert s9; revert s8; revert s87; revert s7; revert s0; refine kp5 hs rfl ?_; intro s0 s7 s87 s8 s9
   have s88 := hd 88 rfl (by decide)
   replace e_w := e_w.trans x
   have e_w48 := x
   replace m9 := m9.tr hs rfl
   clear hd hs x
   have l50 := OwnBA.lt (later e_w48 s87)
   have l50_7 := OwnBA.lt (later e_w48 s7)
   refine wl_append_bsA hr (by decide) Try.underlying22 info5 rfl (later e_w48 s87) (OwnBA.bs s88) e_w.size (by have y9 := lensE_bd (l.drop (j + 1)); have y8 : (l.drop (j + 1)).length ≤ 100 := (by simp; omega); simp only [List.length_append, List.length_nil, bytesE_len, laidE_len]; omega) ?_; clear hr; intro g50 a50 w50 hg50 hc hr hd hs
   have hb := hc.below e_w.size l50.1
   revert s9; revert s8; revert s7; revert s0; refine kp4 hs rfl ?_; intro s0 s7 s8 s9
   clear s87 s88
   replace s7 := OwnBA.other (later e_w48 s7) hc (by omega)
   have s89 := hd
   replace e_w := e_w.below (Nat.le_refl _) hb
   clear e_w48
   replace s8 := anyw (w2 := w50) s8
   replace s9 := anyw (w2 := w50) s9
   replace m9 := m9.tr hs rfl
   clear hd hs hb hc
   refine wl_op hr (ok_assign s89) inferInstance ?_; clear hr; intro a51 w51 x hr hd hs
   revert s9; revert s8; revert s0; refine kp3 hs rfl ?_; intro s0 s8 s9
   clear s7 s89
   have s7 := hd 7 rfl (by decide)
   replace e_w := e_w.trans x
   have e_w50 := x
   replace m9 := m9.tr hs rfl
   clear hd hs x
   refine wpList_nil ?_
   refine exit_then ?_
   refine wp_reg 93 [[(9, none)], [(90, some 0)]] [?b52_0, ?b52_0] mixed (by kernel_rfl) (by kernel_rfl) hr ?t52 ?o52 ?_
   case o52 =>
    refine oc0 (fun A W hx hf => ?_) ?_
    exact ok_movE (a0 := a51) (r0 hf)
    refine oc0 (fun A W hx hf => ?_) ?_
    exact ok_assign (q0 ?b52_0 A W 90 hf)
    exact OpsOk.nil
   case t52 => exact inferInstance
   clear hr; intro a53 w53 x hr hd hs
   have u6 := mv s9 (fa ?b52_0 a53 w53 6 (hd 1 6 rfl))
   revert s7; revert s8; revert s0; refine kp3 hs rfl ?_; intro s0 s8 s7
   clear s9
   have s6 := u6; clear u6
   replace e_w := e_w.trans x
   replace e_w50 := e_w50.trans x
   have e_w51 := x
   replace m9 := m9.tr hs rfl
   clear hd hs x
   refine blk_normal ?_
   refine exit_then ?_
   refine wp_reg 93 [[(8, none)], [(18, some 0)], [(19, some 1)]] [?b54_0, ?b54_1, ?b54_1] mixed (by kernel_rfl) (by kernel_rfl) hr ?t54 ?o54 ?_
   case o54 =>
    refine oc0 (fun A W hx hf => ?_) ?_
    exact ok_movE (a0 := a53) (r0 hf)
    refine oc0 (fun A W hx hf => ?_) ?_
    exact ok_subI (p2 s8 e_w50 hx (q0 ?b54_0 A W 18 hf)) (ec A (.int .i64 1)) (by omega)
    refine oc0 (fun A W hx hf => ?_) ?_
    exact ok_assign (q0 ?b54_1 A W 19 hf)
    exact OpsOk.nil
   case t54 => exact inferInstance
   clear hr; intro a55 w55 x hr hd hs
   revert s6; revert s7; revert s0; refine kp3 hs rfl ?_; intro s0 s7 s6
   clear s8
   have s8 := fa ?b54_1 a55 w55 8 (hd 2 8 rfl)
   replace e_w := e_w.trans x
   replace e_w50 := e_w50.trans x
   replace e_w51 := e_w51.trans x
   replace m9 := m9.tr hs rfl
   clear hd hs x
   refine exit_then ?_
   refine ⟨(fun (i β : Nat) => i) (j) (0), ?_, ?_⟩
   · (try dsimp only); omega
   refine ⟨j, g50, rfl, hr, m9, e_w, (by first | assumption | omega), ?_, ?_, ?_⟩
   · exact Is.int (later e_w50 s6) (by rw [laidE_drop hjl])
   · exact OwnBA.cast (later e_w51 s7) (by rw [laidE_drop hjl]; simp)
   · exact Is.int s8 (by omega)
 · skip
   have hi0 : i = 0 := by simp at hge; omega
   subst hi0
   refine wp_exit ?_
   refine then_exit ?_
   refine then_exit ?_
   refine blk_exit ?_
   refine exit_then ?_
   refine wp_seq ?_
   refine wp_reg 93 [[(6, none)], [(7, none)], [(91, some 0)], [(92, some 1)]] [?b56_0, ?b56_1, ?b56_0, ?b56_1] mixed (by kernel_rfl) (by kernel_rfl) hr ?t56 ?o56 ?_
   case o56 =>
    refine oc0 (fun A W hx hf => ?_) ?_
    exact ok_movE (a0 := a11) (r0 hf)
    refine oc0 (fun A W hx hf => ?_) ?_
    exact ok_movE (a0 := a11) (r0 hf)
    refine oc0 (fun A W hx hf => ?_) ?_
    exact ok_assign (q0 ?b56_0 A W 91 hf)
    refine oc0 (fun A W hx hf => ?_) ?_
    exact ok_assign (q0 ?b56_1 A W 92 hf)
    exact OpsOk.nil
   case t56 => exact inferInstance
   clear hr; intro a57 w57 x hr hd hs
   have u4 := mv s6 (fa ?b56_0 a57 w57 4 (hd 2 4 rfl))
   have u5 := mv s7 (fa ?b56_1 a57 w57 5 (hd 3 5 rfl))
   clear s0 s6 s7 s8 s17
   have s4 := u4; clear u4
   have s5 := u5; clear u5
   replace e_w := e_w.trans x
   replace e_w9 := e_w9.trans x
   clear hd hs x
   refine exit_then ?_
   refine wp_ret ?_
   refine ret_tmp2 Try.results28 hr e_w ?_
   exact ⟨_, _, rfl, Is.int (later e_w9 s4) (by rw [List.drop_zero]), OwnB.cast (OwnB.mono (later e_w9 s5).own hB) (by rw [List.drop_zero])⟩

theorem c_whole9 {x0 x1 x2 : Value} {w : World} {H : SixL} {l : List ExtL} {load : List UInt8} {B : Nat} (h0 : (Is (SixV H)) x0 w) (h1 : (Rw extR l) x1 w) (h2 : (Bs load) x2 w) (hH : SixOk H) (hr9 : sixRight H = true) (hx9 : ∀ x ∈ l, ExtOk x) (hn9 : l.length ≤ 9) (hl9 : load.length ≤ 300) (hB : B ≤ w.heap.size) :
    Calls Try.prog 17 #[x0, x1, x2] w (Ret (OwnB B 5 (wholeE H l load)) w) := by
 have hs16 := hH.1
 have hd16 := hH.2
 obtain ⟨k1, k2, k3, k4, k5, k6, k7, k8, k9⟩ := sixRight_bd hr9
 have hlb := lensE_bd l
 have hll := laidE_len l H.proto
 have hfs := laidE_fst (l := l) k4
 refine enter Try.func17 rfl Try.ntmps17 (k := 3) rfl (by decide) (fun a0 hr hargs => ?_)
 have s0 := sarg h0 (hargs 0 (by decide))
 have s1 := sarg h1 (hargs 1 (by decide))
 have s2 := sarg h2 (hargs 2 (by decide))
 clear hargs
 refine wp_seq ?_
 refine wp_reg 42 [[(0, none)], []] [?b1_0, ?b1_1] mixed (by kernel_rfl) (by kernel_rfl) hr ?t1 ?o1 ?_
 case o1 =>
  refine oc0 (fun A W hx hf => ?_) ?_
  exact ok_boxS (sixS2 H) [1, 1, 1, 1, 1, 1, 1, 16, 1, 16] (Is.conv (o1 s0 hx (r0 hf)) (show _ = Value.agg (sixS2 H).flatten.toArray from by rw [six_seg]; rfl)) (by exact sixS2_lens hH) hx.size
  refine oc0 (fun A W hx hf => ?_) ?_
  exact ok_assignv (OwnBA 0 w.heap.size 5 []) (fun _ => ownBA_nil)
  exact OpsOk.nil
 case t1 => exact inferInstance
 clear hr; intro a2 w2 x hr hd hs
 revert s2; revert s1; refine kp2 hs rfl ?_; intro s1 s2
 clear s0
 have s3 := fa ?b1_0 a2 w2 3 (hd 0 3 rfl)
 obtain ⟨g2_3, q2_3⟩ := PxN.at s3; clear s3; have n2_3 := PxS.lt q2_3
 have s3 := q2_3; clear q2_3
 have e_w := x
 clear hd hs x
 refine exit_then ?_
 refine wp_seq ?_
 refine wp_reg 42 [[(1, none)], [(3, none)], [(12, some 1)], [(11, some 0), (13, some 2)], [(14, some 3)], [(10, some 4)], [(10, some 4)], [(15, some 5)], [(16, some 6)]] [?b3_0, ?b3_1, ?b3_2, ?b3_3, ?b3_3, ?b3_5, ?b3_6, ?b3_5, ?b3_6] mixed (by kernel_rfl) (by kernel_rfl) hr ?t3 ?o3 ?_
 case o3 =>
  refine oc0 (fun A W hx hf => ?_) ?_
  exact ok_movE (a0 := a2) (r0 hf)
  refine oc0 (fun A W hx hf => ?_) ?_
  exact ok_fieldS 5 Try.underlying28 (k := 5) rfl size3 rfl (o1 s3 hx (r0 hf)) rfl
  refine oc0 (fun A W hx hf => ?_) ?_
  exact ok_loadS Try.underlying3 rfl (q0 ?b3_1 A W 12 hf) rfl
  refine oc0 (fun A W hx hf => ?_) ?_
  exact ok_call2 body28 (c_laid9 (p2 s1 e_w hx (q0 ?b3_0 A W 11 hf)) (q1 ?b3_2 A W 13 hf) (by exact hx9) (by omega) (by exact k4) hx.size)
  refine oc0 (fun A W hx hf => ?_) ?_
  exact ok_move (q0 ?b3_3 A W 14 hf)
  refine oc0 (fun A W hx hf => ?_) ?_
  exact ok_ext0 (q0 ?b3_3 A W 10 hf)
  refine oc0 (fun A W hx hf => ?_) ?_
  exact ok_ext1 (q0 ?b3_3 A W 10 hf)
  refine oc0 (fun A W hx hf => ?_) ?_
  exact ok_assign (q0 ?b3_5 A W 15 hf)
  refine oc0 (fun A W hx hf => ?_) ?_
  exact ok_assign (q0 ?b3_6 A W 16 hf)
  exact OpsOk.nil
 case t3 => exact inferInstance
 clear hr; intro a4 w4 x hr hd hs
 have z_w_w2 := e_w.size
 have l4_3 := PxS.lt s3
 revert s3; revert s2; refine kp2 hs rfl ?_; intro s2 s3
 clear s1
 have s7 := fa ?b3_5 a4 w4 7 (hd 7 7 rfl)
 have s8 := fa ?b3_6 a4 w4 8 (hd 8 8 rfl)
 obtain ⟨g4_8, q4_8⟩ := OwnB.at s8; clear s8; have n4_8 := OwnBA.lt q4_8
 replace q4_8 := OwnBA.mono q4_8 e_w.size
 have s8 := q4_8; clear q4_8
 replace e_w := e_w.trans x
 have e_w2 := x
 clear hd hs x
 refine exit_then ?_
 refine wp_seq ?_
 refine wp_reg 42 [[(8, none)], [(17, some 0)], [(18, some 1)], [(2, none)], [(20, some 3)], [(19, some 2), (21, some 4)], [(3, none)], [(23, some 6)], [(3, none)], [(25, some 8)], [(3, none)], [(27, some 10)], [(3, none)], [(29, some 12)], [(22, some 5), (24, some 7), (26, some 9), (28, some 11), (30, some 13)], [(31, some 14)], [(32, some 15)]] [?b5_0, ?b5_1, ?b5_2, ?b5_3, ?b5_4, ?b5_5, ?b5_6, ?b5_7, ?b5_8, ?b5_9, ?b5_10, ?b5_11, ?b5_12, ?b5_13, ?b5_14, ?b5_15, ?b5_15] mixed (by kernel_rfl) (by kernel_rfl) hr ?t5 ?o5 ?_
 case o5 =>
  refine oc0 (fun A W hx hf => ?_) ?_
  exact ok_movE (a0 := a4) (r0 hf)
  refine oc0 (fun A W hx hf => ?_) ?_
  exact ok_len_bs Try.underlying22 (OwnBA.bs (p1 s8 hx (q0 ?b5_0 A W 17 hf)))
  refine oc0 (fun A W hx hf => ?_) ?_
  exact ok_addI (ec A (.int .i64 40)) (q0 ?b5_1 A W 18 hf) (by omega)
  refine oc0 (fun A W hx hf => ?_) ?_
  exact ok_movE (a0 := a4) (r0 hf)
  refine oc0 (fun A W hx hf => ?_) ?_
  exact ok_len_bs Try.underlying22 (p2 s2 e_w hx (q0 ?b5_3 A W 20 hf))
  refine oc0 (fun A W hx hf => ?_) ?_
  exact ok_addI (q0 ?b5_2 A W 19 hf) (q1 ?b5_4 A W 21 hf) (by omega)
  refine oc0 (fun A W hx hf => ?_) ?_
  exact ok_fieldS 2 Try.underlying28 (k := 2) rfl size3 rfl (o2 s3 e_w2 hx (r0 hf)) rfl
  refine oc0 (fun A W hx hf => ?_) ?_
  exact ok_loadS Try.underlying3 rfl (q0 ?b5_6 A W 23 hf) rfl
  refine oc0 (fun A W hx hf => ?_) ?_
  exact ok_fieldS 5 Try.underlying28 (k := 5) rfl size3 rfl (o2 s3 e_w2 hx (r0 hf)) rfl
  refine oc0 (fun A W hx hf => ?_) ?_
  exact ok_loadS Try.underlying3 rfl (q0 ?b5_8 A W 25 hf) rfl
  refine oc0 (fun A W hx hf => ?_) ?_
  exact ok_fieldS 6 Try.underlying28 (k := 6) rfl size26 rfl (o2 s3 e_w2 hx (r0 hf)) rfl
  refine oc0 (fun A W hx hf => ?_) ?_
  exact ok_loadAggS 8 Try.underlying26 rfl size26 (q0 ?b5_10 A W 27 hf) rfl
  refine oc0 (fun A W hx hf => ?_) ?_
  exact ok_fieldS 8 Try.underlying28 (k := 7) rfl size26 rfl (o2 s3 e_w2 hx (r0 hf)) rfl
  refine oc0 (fun A W hx hf => ?_) ?_
  exact ok_loadAggS 10 Try.underlying26 rfl size26 (q0 ?b5_12 A W 29 hf) rfl
  refine oc0 (fun A W hx hf => ?_) ?_
  exact ok_buildS [(0, (.const (.int .i64 40))), (1, (.tmp 22)), (2, (.tmp 24)), (5, (.tmp 26)), (6, (.tmp 28)), (7, (.tmp 30))] [(0, _), (1, _), (2, _), (5, _), (6, _), (7, _)] lay28 rfl (PartsC.one (ec A (.int .i64 40)) rfl (PartsC.one (q0 ?b5_5 A W 22 hf) rfl (PartsC.one (q1 ?b5_7 A W 24 hf) rfl (PartsC.one (q2 ?b5_9 A W 26 hf) rfl (PartsC.agg (q3 ?b5_11 A W 28 hf) (PartsC.agg (q4 ?b5_13 A W 30 hf) (PartsC.nil))))))) (by simp [sixS2, hs16, hd16])
  refine oc0 (fun A W hx hf => ?_) ?_
  exact ok_call1 body15 (c_r9Put (Is.conv (q0 ?b5_14 A W 31 hf) (show _ = SixV (⟨40, 40 + ((laidE l H.proto).2.length : Int) + (load.length : Int), H.hop, false, 0, H.proto, H.src, H.dst⟩ : SixL) from by simp [SixV, sixS, adrCells, setAll, sixS2])) (by exact ⟨hs16, hd16⟩) (by show 40 ≤ (40 + ((laidE l H.proto).2.length : Int) + (load.length : Int)) ∧ (40 + ((laidE l H.proto).2.length : Int) + (load.length : Int)) ≤ 65575; omega) hx.size)
  refine oc0 (fun A W hx hf => ?_) ?_
  exact ok_assign (q0 ?b5_15 A W 32 hf)
  exact OpsOk.nil
 case t5 => exact inferInstance
 clear hr; intro a6 w6 x hr hd hs
 have z_w_w4 := e_w.size
 have z_w2_w4 := e_w2.size
 have l6_3 := PxS.lt (later e_w2 s3)
 have l6_8 := OwnBA.lt s8
 revert s8; revert s7; revert s2; refine kp3 hs rfl ?_; intro s2 s7 s8
 clear s3
 have s9 := fa ?b5_15 a6 w6 9 (hd 16 9 rfl)
 obtain ⟨g6_9, q6_9⟩ := OwnB.at s9; clear s9; have n6_9 := OwnBA.lt q6_9
 replace q6_9 := OwnBA.mono q6_9 e_w.size
 have s9 := q6_9; clear q6_9
 replace e_w := e_w.trans x
 clear e_w2
 have e_w4 := x
 clear hd hs x
 replace s9 := OwnBA.cast s9 (show _ = hdr6 H ((lensE l + load.length : Nat) : Int) H.proto from by rw [sixPut_hdr]; show hdr6 H (40 + ((laidE l H.proto).2.length : Int) + (load.length : Int) - 40) H.proto = _; congr 1; omega)
 refine exit_then ?_
 refine wp_seq ?_
 refine wp_reg_pre (l := [_, _, _, _]) (rest := [_]) 42 [[(9, none)], [(7, none)], [(34, some 1)], [(33, some 0)]] [?b7_0, ?b7_1, ?b7_2, ?b7_3] (by kernel_rfl) (by kernel_rfl) hr ?t7 ?o7 ?_
 case o7 =>
  refine oc0 (fun A W hx hf => ?_) ?_
  exact ok_movE (a0 := a6) (r0 hf)
  refine oc0 (fun A W hx hf => ?_) ?_
  exact ok_movE (a0 := a6) (r0 hf)
  refine oc0 (fun A W hx hf => ?_) ?_
  exact ok_conv8 Try.underlying3 Try.underlying5 (p2 s7 e_w4 hx (q0 ?b7_1 A W 34 hf))
  refine oc0 (fun A W hx hf => ?_) ?_
  exact ok_indexA (6) Try.underlying22 size5 (p1 s9 hx (q0 ?b7_0 A W 33 hf)) (ec A (.int .i64 6)) (by rw [hdr6_len hH]; decide)
  exact OpsOk.nil
 case t7 => exact inferInstance
 clear hr; intro a8 w8 x hr hd hs
 revert s9; revert s8; revert s2; refine kp3 hs rfl ?_; intro s2 s8 s9
 clear s7
 have s35 := fa ?b7_2 a8 w8 35 (hd 2 35 rfl)
 have s36 := fa ?b7_3 a8 w8 36 (hd 3 36 rfl)
 replace e_w := e_w.trans x
 replace e_w4 := e_w4.trans x
 have e_w6 := x
 clear hd hs x
 have z9 := EpA.lt s36
 have l9 := (show (g6_9 = 0 ∨ w.heap.size < g6_9) ∧ True from ⟨by omega, trivial⟩)
 have l9_8 := OwnBA.lt (later e_w4 s8)
 refine wl_storeA hr size5 s36 s35 ?_; clear hr; intro a9 w9 hc hu hr hs
 have hb : Below w.heap.size w8 w9 := hc.below e_w.size l9.1
 revert s9; revert s8; revert s2; refine kp3 hs rfl ?_; intro s2 s8 s9
 clear s35 s36
 replace s8 := OwnBA.other (later e_w4 s8) hc (by omega)
 replace s9 := hu _ _ _ (later e_w6 s9)
 replace e_w := e_w.below (Nat.le_refl _) hb
 clear e_w4
 clear e_w6
 clear hu hs hc hb
 refine wpList_nil ?_
 replace s9 := OwnBA.cast s9 (show _ = hdr6 H ((lensE l + load.length : Nat) : Int) (laidE l H.proto).1 from hdr6_set)
 refine exit_then ?_
 refine wp_seq ?_
 refine wp_reg_pre (l := [_, _]) (rest := [_, _, _, _]) 42 [[(9, none)], [(8, none)]] [?b10_0, ?b10_1] (by kernel_rfl) (by kernel_rfl) hr ?t10 ?o10 ?_
 case o10 =>
  refine oc0 (fun A W hx hf => ?_) ?_
  exact ok_movE (a0 := a9) (r0 hf)
  refine oc0 (fun A W hx hf => ?_) ?_
  exact ok_movE (a0 := a9) (r0 hf)
  exact OpsOk.nil
 case t10 => exact inferInstance
 clear hr; intro a11 w11 x hr hd hs
 have u37 := mv s9 (fa ?b10_0 a11 w11 37 (hd 0 37 rfl))
 have u38 := mv s8 (fa ?b10_1 a11 w11 38 (hd 1 38 rfl))
 revert s2; refine kp1 hs rfl ?_; intro s2
 clear s8 s9
 have s37 := u37; clear u37
 have s38 := u38; clear u38
 replace e_w := e_w.trans x
 have e_w9 := x
 clear hd hs x
 have l12 := OwnBA.lt (later e_w9 s37)
 refine wl_append_bsA hr (by decide) Try.underlying22 info5 rfl (later e_w9 s37) (OwnBA.bs (later e_w9 s38)) e_w.size (by simp only [List.length_append, hdr6_len hH, hll]; omega) ?_; clear hr; intro g12 a12 w12 hg12 hc hr hd hs
 have hb := hc.below e_w.size l12.1
 revert s2; refine kp1 hs rfl ?_; intro s2
 clear s37 s38
 have s39 := hd
 replace e_w := e_w.below (Nat.le_refl _) hb
 clear e_w9
 clear hd hs hb hc
 refine wl_op hr (ok_move (later e_w s2)) inferInstance ?_; clear hr; intro a13 w13 x hr hd hs
 revert s39; refine kp1 hs rfl ?_; intro s39
 clear s2
 have s40 := hd 40 rfl (by decide)
 replace e_w := e_w.trans x
 have e_w12 := x
 clear hd hs x
 have l14 := OwnBA.lt (later e_w12 s39)
 refine wl_append_bsA hr (by decide) Try.underlying22 info5 rfl (later e_w12 s39) s40 e_w.size (by simp only [List.length_append, hdr6_len hH, hll]; omega) ?_; clear hr; intro g14 a14 w14 hg14 hc hr hd hs
 have hb := hc.below e_w.size l14.1
 clear s39 s40
 have s41 := hd
 replace e_w := e_w.below (Nat.le_refl _) hb
 clear e_w12
 clear hd hs hb hc
 refine wl_op hr (ok_assign s41) inferInstance ?_; clear hr; intro a15 w15 x hr hd hs
 clear s41
 have s6 := hd 6 rfl (by decide)
 replace e_w := e_w.trans x
 clear hd hs x
 refine wpList_nil ?_
 refine exit_then ?_
 refine wp_ret ?_
 refine ret_tmp Try.results17 hr e_w ?_
 exact OwnB.mono s6.own hB

end Go.Proofs.Ytdohlcakoamdhaa
