import Derived.Test.YteccaejdgefdpaaC06b
import Derived.Test.YteccaejdgefdpaaV
namespace Go.Proofs.Yteccaejdgefdpaa
open Go.RowKit
set_option linter.unusedVariables false
set_option maxRecDepth 4000
theorem c_Pseudo {x0 x1 x2 x3 : Value} {w : World} {Sa Da : Adr} {p n : Int} {B : Nat} (h0 : (Is (AdrV Sa)) x0 w) (h1 : (Is (AdrV Da)) x1 w) (h2 : (Is (.int .i64 p)) x2 w) (h3 : (Is (.int .i64 n)) x3 w) (hA : Sa.b.length = 16) (hD : Da.b.length = 16) (hB : B ≤ w.heap.size) :
    Calls Try.prog 30 #[x0, x1, x2, x3] w (Ret (OwnB B 5 (pseudoL Sa Da p n)) w) := by
 refine enter Try.func30 rfl Try.ntmps30 (k := 4) rfl (by decide) (fun a0 hr hargs => ?_)
 have s0 := sarg h0 (hargs 0 (by decide))
 have s1 := sarg h1 (hargs 1 (by decide))
 have s2 := sarg h2 (hargs 2 (by decide))
 have s3 := sarg h3 (hargs 3 (by decide))
 clear hargs
 refine wp_seq ?_
 refine wp_reg 42 [[(0, none)], [(1, none)], []] [?b1_0, ?b1_1, ?b1_2] mixed (by kernel_rfl) (by kernel_rfl) hr ?t1 ?o1 ?_
 case o1 =>
  refine oc0 (fun A W hx hf => ?_) ?_
  exact ok_boxA (o1 s0 hx (r0 hf))
  refine oc0 (fun A W hx hf => ?_) ?_
  exact ok_boxA (o1 s1 hx (r0 hf))
  refine oc0 (fun A W hx hf => ?_) ?_
  exact ok_assignv (Bs []) (fun _ => bs_nil)
  exact OpsOk.nil
 case t1 => exact inferInstance
 clear hr; intro a2 w2 x hr hd hs
 revert s2 s3; refine kp2 hs rfl ?_; intro s2 s3
 clear s0 s1
 have s4 := fa ?b1_0 a2 w2 4 (hd 0 4 rfl)
 have s5 := fa ?b1_1 a2 w2 5 (hd 1 5 rfl)
 have e_w := x
 clear hd hs x
 refine exit_then ?_
 refine wp_seq ?_
 refine wp_reg 42 [[(2, none)], [(10, some 0)], [(3, none)], [(12, some 2)], [(13, some 3)], [(3, none)], [(15, some 5)], [(11, some 1), (14, some 4), (16, some 6)], [(17, some 7)]] [?b3_0, ?b3_1, ?b3_2, ?b3_3, ?b3_4, ?b3_5, ?b3_6, ?b3_7, ?b3_7] mixed (by kernel_rfl) (by kernel_rfl) hr ?t3 ?o3 ?_
 case o3 =>
  refine oc0 (fun A W hx hf => ?_) ?_
  exact ok_movE (a0 := a2) (r0 hf)
  refine oc0 (fun A W hx hf => ?_) ?_
  exact ok_conv8 Try.underlying3 Try.underlying5 (p2 s2 e_w hx (q0 ?b3_0 A W 10 hf))
  refine oc0 (fun A W hx hf => ?_) ?_
  exact ok_movE (a0 := a2) (r0 hf)
  refine oc0 (fun A W hx hf => ?_) ?_
  exact ok_shr 8 (by decide) (p2 s3 e_w hx (q0 ?b3_2 A W 12 hf)) (ec A (.int .u64 8))
  refine oc0 (fun A W hx hf => ?_) ?_
  exact ok_conv8 Try.underlying3 Try.underlying5 (q0 ?b3_3 A W 13 hf)
  refine oc0 (fun A W hx hf => ?_) ?_
  exact ok_movE (a0 := a2) (r0 hf)
  refine oc0 (fun A W hx hf => ?_) ?_
  exact ok_conv8 Try.underlying3 Try.underlying5 (p2 s3 e_w hx (q0 ?b3_5 A W 15 hf))
  refine oc0 (fun A W hx hf => ?_) ?_
  exact ok_buildBs [(.const (.int .u8 0)), (.tmp 11), (.tmp 14), (.tmp 16)] [_, _, _, _] Try.underlying22 size5 zero5 rfl rfl (by decide) (PartsOk.cons (show ByteIs 0 _ _ from rfl) (PartsOk.cons (q0 ?b3_1 A W 11 hf) (PartsOk.cons (q1 ?b3_4 A W 14 hf) (PartsOk.cons (q2 ?b3_6 A W 16 hf) (PartsOk.nil)))))
  refine oc0 (fun A W hx hf => ?_) ?_
  exact ok_assign (q0 ?b3_7 A W 17 hf)
  exact OpsOk.nil
 case t3 => exact inferInstance
 clear hr; intro a4 w4 x hr hd hs
 revert s2 s3 s4 s5; refine kp4 hs rfl ?_; intro s2 s3 s4 s5
 have s9 := fa ?b3_7 a4 w4 9 (hd 8 9 rfl)
 replace e_w := e_w.trans x
 have e_w2 := x
 clear hd hs x
 refine exit_then ?_
 refine wp_seq ?_
 refine wp_seq ?_
 refine wp_reg 42 [[(4, none)], [(18, some 0)]] [?b5_0, ?b5_1] mixed (by kernel_rfl) (by kernel_rfl) hr ?t5 ?o5 ?_
 case o5 =>
  refine oc0 (fun A W hx hf => ?_) ?_
  exact ok_fieldAddr Try.underlying35 (i := 0) rfl size4 rfl (o2 s4 e_w2 hx (r0 hf))
  refine oc0 (fun A W hx hf => ?_) ?_
  exact ok_loadc Try.underlying4 rfl (q0 ?b5_0 A W 18 hf)
  exact OpsOk.nil
 case t5 => exact inferInstance
 clear hr; intro a6 w6 x hr hd hs
 revert s2 s3 s4 s5 s9; refine kp5 hs rfl ?_; intro s2 s3 s4 s5 s9
 have s19 := fa ?b5_1 a6 w6 19 (hd 1 19 rfl)
 replace e_w := e_w.trans x
 replace e_w2 := e_w2.trans x
 have e_w4 := x
 clear hd hs x
 refine exit_then ?_
 refine wp_cond_split (show _ = _ from s19) (fun h6 => ?_) (fun h6 => ?_)
 · skip
   skip
   refine wp_seq ?_
   refine wp_reg 42 [[(3, none)], [(20, some 0)], [(21, some 1)], [(3, none)], [(23, some 3)], [(2, none)], [(25, some 5)], [(22, some 2), (24, some 4), (26, some 6)], [(27, some 7)]] [?b8_0, ?b8_1, ?b8_2, ?b8_3, ?b8_4, ?b8_5, ?b8_6, ?b8_7, ?b8_7] mixed (by kernel_rfl) (by kernel_rfl) hr ?t8 ?o8 ?_
   case o8 =>
    refine oc0 (fun A W hx hf => ?_) ?_
    exact ok_movE (a0 := a6) (r0 hf)
    refine oc0 (fun A W hx hf => ?_) ?_
    exact ok_shr 8 (by decide) (p2 s3 e_w hx (q0 ?b8_0 A W 20 hf)) (ec A (.int .u64 8))
    refine oc0 (fun A W hx hf => ?_) ?_
    exact ok_conv8 Try.underlying3 Try.underlying5 (q0 ?b8_1 A W 21 hf)
    refine oc0 (fun A W hx hf => ?_) ?_
    exact ok_movE (a0 := a6) (r0 hf)
    refine oc0 (fun A W hx hf => ?_) ?_
    exact ok_conv8 Try.underlying3 Try.underlying5 (p2 s3 e_w hx (q0 ?b8_3 A W 23 hf))
    refine oc0 (fun A W hx hf => ?_) ?_
    exact ok_movE (a0 := a6) (r0 hf)
    refine oc0 (fun A W hx hf => ?_) ?_
    exact ok_conv8 Try.underlying3 Try.underlying5 (p2 s2 e_w hx (q0 ?b8_5 A W 25 hf))
    refine oc0 (fun A W hx hf => ?_) ?_
    exact ok_buildBs [(.const (.int .u8 0)), (.const (.int .u8 0)), (.tmp 22), (.tmp 24), (.const (.int .u8 0)), (.const (.int .u8 0)), (.const (.int .u8 0)), (.tmp 26)] [_, _, _, _, _, _, _, _] Try.underlying22 size5 zero5 rfl rfl (by decide) (PartsOk.cons (show ByteIs 0 _ _ from rfl) (PartsOk.cons (show ByteIs 0 _ _ from rfl) (PartsOk.cons (q0 ?b8_2 A W 22 hf) (PartsOk.cons (q1 ?b8_4 A W 24 hf) (PartsOk.cons (show ByteIs 0 _ _ from rfl) (PartsOk.cons (show ByteIs 0 _ _ from rfl) (PartsOk.cons (show ByteIs 0 _ _ from rfl) (PartsOk.cons (q2 ?b8_6 A W 26 hf) (PartsOk.nil)))))))))
    refine oc0 (fun A W hx hf => ?_) ?_
    exact ok_assign (q0 ?b8_7 A W 27 hf)
    exact OpsOk.nil
   case t8 => exact inferInstance
   clear hr; intro a9 w9 x hr hd hs
   revert s4 s5; refine kp2 hs rfl ?_; intro s4 s5
   clear s2 s3 s9 s19
   have s9 := fa ?b8_7 a9 w9 9 (hd 8 9 rfl)
   replace e_w := e_w.trans x
   replace e_w2 := e_w2.trans x
   clear e_w4
   clear hd hs x
   refine exit_then ?_
   refine wp_seq ?_
   refine wp_reg 42 [[(4, none)], [(28, some 0)], [(5, none)], [(30, some 2)], [(9, none)], [(29, some 1), (31, some 3), (32, some 4)], [(33, some 5)], [(34, some 6)]] [?b10_0, ?b10_1, ?b10_2, ?b10_3, ?b10_4, ?b10_5, ?b10_6, ?b10_6] mixed (by kernel_rfl) (by kernel_rfl) hr ?t10 ?o10 ?_
   case o10 =>
    refine oc0 (fun A W hx hf => ?_) ?_
    exact ok_fieldAddr Try.underlying35 (i := 1) rfl size33 rfl (o2 s4 e_w2 hx (r0 hf))
    refine oc0 (fun A W hx hf => ?_) ?_
    exact ok_arr_all Try.underlying33 size5 (adr_take hA) hA (by decide) (q0 ?b10_0 A W 28 hf)
    refine oc0 (fun A W hx hf => ?_) ?_
    exact ok_fieldAddr Try.underlying35 (i := 1) rfl size33 rfl (o2 s5 e_w2 hx (r0 hf))
    refine oc0 (fun A W hx hf => ?_) ?_
    exact ok_arr_all Try.underlying33 size5 (adr_take hD) hD (by decide) (q0 ?b10_2 A W 30 hf)
    refine oc0 (fun A W hx hf => ?_) ?_
    exact ok_movE (a0 := a9) (r0 hf)
    refine oc0 (fun A W hx hf => ?_) ?_
    exact ok_buildBss [(.tmp 29), (.tmp 31), (.tmp 32)] [_, _, _] Try.underlying56 size22 zero22 rfl rfl (by decide) (PartsOk.cons (q0 ?b10_1 A W 29 hf) (PartsOk.cons (q1 ?b10_3 A W 31 hf) (PartsOk.cons (p1 s9 hx (q2 ?b10_4 A W 32 hf)) (PartsOk.nil))))
    refine oc0 (fun A W hx hf => ?_) ?_
    exact ok_call1 body36 (c_concat (q0 ?b10_5 A W 33 hf) hx.size (by simp; omega))
    refine oc0 (fun A W hx hf => ?_) ?_
    exact ok_assign (q0 ?b10_6 A W 34 hf)
    exact OpsOk.nil
   case t10 => exact inferInstance
   clear hr; intro a11 w11 x hr hd hs
   have z_w_w9 := e_w.size
   have z_w2_w9 := e_w2.size
   clear s4 s5 s9
   have s8 := fa ?b10_6 a11 w11 8 (hd 7 8 rfl)
   replace e_w := e_w.trans x
   clear e_w2
   have e_w9 := x
   clear hd hs x
   refine exit_then ?_
   refine wp_ret ?_
   refine then_ret ?_
   refine ret_tmp Try.results30 hr e_w ?_
   first | exact OwnB.cast (OwnB.mono s8 (Nat.le_trans hB (by assumption))) (by unfold pseudoL pseudo; rw [if_pos h6]; simp) | exact OwnB.cast (OwnB.mono s8 (Nat.le_trans hB (by assumption))) (by unfold pseudoL pseudo; rw [if_neg (by rw [h6]; decide)]; simp)
 · skip
   skip
   refine wp_skip ?_
   refine exit_then ?_
   refine wp_seq ?_
   refine wp_reg 42 [[(4, none)], [(35, some 0)], [(5, none)], [(37, some 2)], [(9, none)], [(36, some 1), (38, some 3), (39, some 4)], [(40, some 5)], [(41, some 6)]] [?b12_0, ?b12_1, ?b12_2, ?b12_3, ?b12_4, ?b12_5, ?b12_6, ?b12_6] mixed (by kernel_rfl) (by kernel_rfl) hr ?t12 ?o12 ?_
   case o12 =>
    refine oc0 (fun A W hx hf => ?_) ?_
    exact ok_fieldAddr Try.underlying35 (i := 1) rfl size33 rfl (o2 s4 e_w2 hx (r0 hf))
    refine oc0 (fun A W hx hf => ?_) ?_
    exact ok_arr_hi 4 Try.underlying33 size5 (adr_take hA) hA (by decide) (q0 ?b12_0 A W 35 hf) (ec A (.int .i64 4)) (by first | omega | decide | (simp; done) | (simp; omega))
    refine oc0 (fun A W hx hf => ?_) ?_
    exact ok_fieldAddr Try.underlying35 (i := 1) rfl size33 rfl (o2 s5 e_w2 hx (r0 hf))
    refine oc0 (fun A W hx hf => ?_) ?_
    exact ok_arr_hi 4 Try.underlying33 size5 (adr_take hD) hD (by decide) (q0 ?b12_2 A W 37 hf) (ec A (.int .i64 4)) (by first | omega | decide | (simp; done) | (simp; omega))
    refine oc0 (fun A W hx hf => ?_) ?_
    exact ok_movE (a0 := a6) (r0 hf)
    refine oc0 (fun A W hx hf => ?_) ?_
    exact ok_buildBss [(.tmp 36), (.tmp 38), (.tmp 39)] [_, _, _] Try.underlying56 size22 zero22 rfl rfl (by decide) (PartsOk.cons (q0 ?b12_1 A W 36 hf) (PartsOk.cons (q1 ?b12_3 A W 38 hf) (PartsOk.cons (p2 s9 e_w4 hx (q2 ?b12_4 A W 39 hf)) (PartsOk.nil))))
    refine oc0 (fun A W hx hf => ?_) ?_
    exact ok_call1 body36 (c_concat (q0 ?b12_5 A W 40 hf) hx.size (by simp; omega))
    refine oc0 (fun A W hx hf => ?_) ?_
    exact ok_assign (q0 ?b12_6 A W 41 hf)
    exact OpsOk.nil
   case t12 => exact inferInstance
   clear hr; intro a13 w13 x hr hd hs
   have z_w_w6 := e_w.size
   have z_w2_w6 := e_w2.size
   have z_w4_w6 := e_w4.size
   clear s2 s3 s4 s5 s9 s19
   have s8 := fa ?b12_6 a13 w13 8 (hd 7 8 rfl)
   replace e_w := e_w.trans x
   clear e_w2
   clear e_w4
   have e_w6 := x
   clear hd hs x
   refine exit_then ?_
   refine wp_ret ?_
   refine ret_tmp Try.results30 hr e_w ?_
   first | exact OwnB.cast (OwnB.mono s8 (Nat.le_trans hB (by assumption))) (by unfold pseudoL pseudo; rw [if_pos h6]; simp) | exact OwnB.cast (OwnB.mono s8 (Nat.le_trans hB (by assumption))) (by unfold pseudoL pseudo; rw [if_neg (by rw [h6]; decide)]; simp)

def D_c_rPseudo_0 : List Tmp := [10]
def D_c_rPseudo_1 : List Tmp := [9, 11, 15, 16, 17, 18, 19, 20, 21, 22, 23, 24, 25, 26]
def D_c_rPseudo_2 : List Tmp := [9, 12, 27, 28, 29, 30, 31, 32, 33, 34, 35, 36, 37, 38]
theorem c_rPseudo {x0 x1 x2 x3 : Value} {w : World} {Sa Da : Adr} {p n : Int} {B : Nat} (h0 : (Is (AdrV Sa)) x0 w) (h1 : (Is (AdrV Da)) x1 w) (h2 : (Is (.int .i64 p)) x2 w) (h3 : (Is (.int .i64 n)) x3 w) (hA : Sa.b.length = 16) (hD : Da.b.length = 16) (hn : 0 ≤ n ∧ n ≤ 65535) (hB : B ≤ w.heap.size) :
    Calls Try.prog 31 #[x0, x1, x2, x3] w (Ret (OwnB B 5 (pseudoL Sa Da p n)) w) := by
 obtain ⟨N, hN, hN16⟩ : ∃ N : Nat, N = (if Sa.six then 16 else 4) ∧ N ≤ 16 := ⟨_, rfl, by split <;> omega⟩
 refine enter Try.func31 rfl Try.ntmps31 (k := 4) rfl (by decide) (fun a0 hr hargs => ?_)
 have s0 := sarg h0 (hargs 0 (by decide))
 have s1 := sarg h1 (hargs 1 (by decide))
 have s2 := sarg h2 (hargs 2 (by decide))
 have s3 := sarg h3 (hargs 3 (by decide))
 clear hargs
 refine wp_seq ?_
 refine wp_reg 63 [[(0, none)], [(1, none)], []] [?b1_0, ?b1_1, ?b1_2] mixed (by kernel_rfl) (by kernel_rfl) hr ?t1 ?o1 ?_
 case o1 =>
  refine oc0 (fun A W hx hf => ?_) ?_
  exact ok_boxA (o1 s0 hx (r0 hf))
  refine oc0 (fun A W hx hf => ?_) ?_
  exact ok_boxA (o1 s1 hx (r0 hf))
  refine oc0 (fun A W hx hf => ?_) ?_
  exact ok_assignv (Bs []) (fun _ => bs_nil)
  exact OpsOk.nil
 case t1 => exact inferInstance
 clear hr; intro a2 w2 x hr hd hs
 revert s2 s3; refine kp2 hs rfl ?_; intro s2 s3
 clear s0 s1
 have s4 := fa ?b1_0 a2 w2 4 (hd 0 4 rfl)
 have s5 := fa ?b1_1 a2 w2 5 (hd 1 5 rfl)
 have e_w := x
 clear hd hs x
 refine exit_then ?_
 refine wp_seq ?_
 refine wp_reg 63 [[]] [?b3_0] mixed (by kernel_rfl) (by kernel_rfl) hr ?t3 ?o3 ?_
 case o3 =>
  refine oc0 (fun A W hx hf => ?_) ?_
  exact ok_assignv (OwnB w2.heap.size 5 []) (fun _ => ownB_nil)
  exact OpsOk.nil
 case t3 => exact inferInstance
 clear hr; intro a4 w4 x hr hd hs
 have z_w_w2 := e_w.size
 revert s2 s3 s4 s5; refine kp4 hs rfl ?_; intro s2 s3 s4 s5
 have s9 := fa ?b3_0 a4 w4 9 (hd 0 9 rfl)
 replace e_w := e_w.trans x
 have e_w2 := x
 clear hd hs x
 refine exit_then ?_
 refine wp_seq ?_
 refine wp_reg 63 [[]] [?b5_0] mixed (by kernel_rfl) (by kernel_rfl) hr ?t5 ?o5 ?_
 case o5 =>
  refine oc0 (fun A W hx hf => ?_) ?_
  exact ok_assignc
  exact OpsOk.nil
 case t5 => exact inferInstance
 clear hr; intro a6 w6 x hr hd hs
 revert s2 s3 s4 s5 s9; refine kp5 hs rfl ?_; intro s2 s3 s4 s5 s9
 have s10 := fa ?b5_0 a6 w6 10 (hd 0 10 rfl)
 replace e_w := e_w.trans x
 replace e_w2 := e_w2.trans x
 have e_w4 := x
 clear hd hs x
 refine exit_then ?_
 refine wp_seq ?_
 refine wp_seq ?_
 refine wp_reg 63 [[(4, none)], [(13, some 0)]] [?b7_0, ?b7_1] mixed (by kernel_rfl) (by kernel_rfl) hr ?t7 ?o7 ?_
 case o7 =>
  refine oc0 (fun A W hx hf => ?_) ?_
  exact ok_fieldAddr Try.underlying35 (i := 0) rfl size4 rfl (o2 s4 e_w2 hx (r0 hf))
  refine oc0 (fun A W hx hf => ?_) ?_
  exact ok_loadc Try.underlying4 rfl (q0 ?b7_0 A W 13 hf)
  exact OpsOk.nil
 case t7 => exact inferInstance
 clear hr; intro a8 w8 x hr hd hs
 revert s2 s3 s4 s5 s9 s10; refine kp6 hs rfl ?_; intro s2 s3 s4 s5 s9 s10
 have s14 := fa ?b7_1 a8 w8 14 (hd 1 14 rfl)
 replace e_w := e_w.trans x
 replace e_w2 := e_w2.trans x
 replace e_w4 := e_w4.trans x
 have e_w6 := x
 clear hd hs x
 refine exit_then ?_
 refine wp_cut (fun A W => Fr 63 A ∧ Same D_c_rPseudo_0 a8 A ∧ Ext w W ∧ Ext w2 W ∧ Ext w4 W ∧ (Is (.int .i64 (N : Int))) (A.eval (.tmp 10)) W) ?cut9 ?_
 case cut9 =>
  have m9 : Same D_c_rPseudo_0 a8 a8 := Same.rfl
  refine wp_cond_split (show _ = _ from s14) (fun h6 => ?_) (fun h6 => ?_)
  · skip
    skip
    refine wp_reg 63 [[]] [?b11_0] mixed (by kernel_rfl) (by kernel_rfl) hr ?t11 ?o11 ?_
    case o11 =>
     refine oc0 (fun A W hx hf => ?_) ?_
     exact ok_assignc
     exact OpsOk.nil
    case t11 => exact inferInstance
    clear hr; intro a12 w12 x hr hd hs
    revert s2 s3 s4 s5 s9; refine kp5 hs rfl ?_; intro s2 s3 s4 s5 s9
    clear s10 s14
    have s10 := fa ?b11_0 a12 w12 10 (hd 0 10 rfl)
    replace e_w := e_w.trans x
    replace e_w2 := e_w2.trans x
    replace e_w4 := e_w4.trans x
    clear e_w6
    replace m9 := m9.tr hs rfl
    clear hd hs x
    refine exit_then ?_
    refine ⟨hr, m9, e_w, e_w2, e_w4, ?_⟩
    · first | exact Is.int s10 (by rw [hN, if_pos h6]; rfl) | exact Is.int s10 (by rw [hN, if_neg (by rw [h6]; decide)]; rfl)
  · skip
    skip
    refine wp_skip ?_
    refine exit_then ?_
    refine ⟨hr, m9, e_w, e_w2, e_w4, ?_⟩
    · first | exact Is.int (later e_w6 s10) (by rw [hN, if_pos h6]; rfl) | exact Is.int (later e_w6 s10) (by rw [hN, if_neg (by rw [h6]; decide)]; rfl)
 intro a9 w9 hI
 clear e_w
 clear e_w2
 clear e_w4
 clear e_w6
 clear hr; obtain ⟨hr, hs, e_w, e_w2, e_w4, u10⟩ := hI
 revert s2 s3 s4 s5 s9; refine kp5 hs rfl ?_; intro s2 s3 s4 s5 s9
 clear s10 s14
 have s10 := u10; clear u10
 clear hs
 refine wp_seq ?_
 refine wp_seq ?_
 refine wp_reg 63 [[]] [?b13_0] mixed (by kernel_rfl) (by kernel_rfl) hr ?t13 ?o13 ?_
 case o13 =>
  refine oc0 (fun A W hx hf => ?_) ?_
  exact ok_assignc
  exact OpsOk.nil
 case t13 => exact inferInstance
 clear hr; intro a14 w14 x hr hd hs
 revert s2 s3 s4 s5 s9 s10; refine kp6 hs rfl ?_; intro s2 s3 s4 s5 s9 s10
 have s11 := fa ?b13_0 a14 w14 11 (hd 0 11 rfl)
 replace e_w := e_w.trans x
 replace e_w2 := e_w2.trans x
 replace e_w4 := e_w4.trans x
 have e_w9 := x
 clear hd hs x
 refine exit_then ?_
 refine wp_block ?_
 refine wp_loop_inv (fun n A W => ∃ (i : Nat), n = N - i ∧ Fr 63 A ∧ Same D_c_rPseudo_1 a14 A ∧ Ext w W ∧ Ext w2 W ∧ (i ≤ N) ∧ (OwnB w2.heap.size 5 (Sa.b.take i)) (A.eval (.tmp 9)) W ∧ (Is (.int .i64 (i : Int))) (A.eval (.tmp 11)) W) ?start15 ?_
 case start15 =>
  refine ⟨_, 0, rfl, hr, Same.rfl, e_w, e_w2, (by first | assumption | omega), ?_, ?_⟩
  · exact (later e_w4 s9)
  · exact s11
 intro n15 a15 w15 hI
 clear e_w
 clear e_w2
 clear e_w4
 clear e_w9
 clear hr; obtain ⟨i, hn15, hr, hs, e_w, e_w2, hi, u9, u11⟩ := hI
 revert s2 s3 s4 s5 s10; refine kp5 hs rfl ?_; intro s2 s3 s4 s5 s10
 clear s9 s11
 have s9 := u9; clear u9
 have s11 := u11; clear u11
 replace s10 := anyw (w2 := w15) s10
 have m15 := hs; clear hs
 refine wp_seq ?_
 refine wp_seq ?_
 refine wp_reg 63 [[(11, none)], [(10, none)], [(15, some 0), (16, some 1)]] [?b16_0, ?b16_1, ?b16_2] mixed (by kernel_rfl) (by kernel_rfl) hr ?t16 ?o16 ?_
 case o16 =>
  refine oc0 (fun A W hx hf => ?_) ?_
  exact ok_movE (a0 := a15) (r0 hf)
  refine oc0 (fun A W hx hf => ?_) ?_
  exact ok_movE (a0 := a15) (r0 hf)
  refine oc0 (fun A W hx hf => ?_) ?_
  exact ok_lss (p1 s11 hx (q0 ?b16_0 A W 15 hf)) (p1 s10 hx (q1 ?b16_1 A W 16 hf))
  exact OpsOk.nil
 case t16 => exact inferInstance
 clear hr; intro a17 w17 x hr hd hs
 revert s2 s3 s4 s5 s9 s11; refine kp6 hs rfl ?_; intro s2 s3 s4 s5 s9 s11
 revert s10; refine kp1 hs rfl ?_; intro s10
 have s17 := fa ?b16_2 a17 w17 17 (hd 2 17 rfl)
 replace e_w := e_w.trans x
 replace e_w2 := e_w2.trans x
 have e_w15 := x
 replace m15 := m15.tr hs rfl
 clear hd hs x
 refine exit_then ?_
 refine wp_cond_split (show _ = _ from s17) (fun hlt => ?_) (fun hlt => ?_)
 · skip
   have hlt : i < N := by simp at hlt; omega
   refine wp_skip ?_
   refine exit_then ?_
   refine wp_seq ?_
   refine wp_block ?_
   refine wp_reg_pre (l := [_, _, _, _, _, _]) (rest := [_, _]) 63 [[(9, none)], [(11, none)], [(4, none)], [(22, some 2), (21, some 1)], [(23, some 3)], [(24, some 4)]] [?b19_0, ?b19_1, ?b19_2, ?b19_3, ?b19_4, ?b19_5] (by kernel_rfl) (by kernel_rfl) hr ?t19 ?o19 ?_
   case o19 =>
    refine oc0 (fun A W hx hf => ?_) ?_
    exact ok_movE (a0 := a17) (r0 hf)
    refine oc0 (fun A W hx hf => ?_) ?_
    exact ok_movE (a0 := a17) (r0 hf)
    refine oc0 (fun A W hx hf => ?_) ?_
    exact ok_fieldAddr Try.underlying35 (i := 1) rfl size33 rfl (o2 s4 e_w2 hx (r0 hf))
    refine oc0 (fun A W hx hf => ?_) ?_
    exact ok_index_arrb (_) Try.underlying33 size5 (adr_take hA) hA (by decide) (q0 ?b19_2 A W 22 hf) (p2 s11 e_w15 hx (q1 ?b19_1 A W 21 hf)) (by first | omega | decide | (simp; done) | (simp; omega))
    refine oc0 (fun A W hx hf => ?_) ?_
    exact ok_loadp Try.underlying5 rfl (q0 ?b19_3 A W 23 hf)
    refine oc0 (fun A W hx hf => ?_) ?_
    exact ok_buildBs [(.tmp 24)] [_] Try.underlying22 size5 zero5 rfl rfl (by decide) (PartsOk.cons (q0 ?b19_4 A W 24 hf) (PartsOk.nil))
    exact OpsOk.nil
   case t19 => exact inferInstance
   clear hr; intro a20 w20 x hr hd hs
   have u20 := mv s9 (fa ?b19_0 a20 w20 20 (hd 0 20 rfl))
   revert s2 s3 s4 s5 s9 s11; refine kp6 hs rfl ?_; intro s2 s3 s4 s5 s9 s11
   revert s10; refine kp1 hs rfl ?_; intro s10
   clear s17
   have s20 := u20; clear u20
   have s25 := fa ?b19_5 a20 w20 25 (hd 5 25 rfl)
   replace e_w := e_w.trans x
   replace e_w2 := e_w2.trans x
   replace e_w15 := e_w15.trans x
   replace m15 := m15.tr hs rfl
   clear hd hs x
   refine wl_append_bs hr (by decide) Try.underlying22 info5 rfl (later e_w15 s20) s25 e_w2.size (by simp; omega) ?_; clear hr; intro a21 w21 hb hr hd hs
   revert s2 s3 s4 s5 s9 s11; refine kp6 hs rfl ?_; intro s2 s3 s4 s5 s9 s11
   revert s10; refine kp1 hs rfl ?_; intro s10
   clear s20 s25
   have s26 := hd
   replace e_w := e_w.below z_w_w2 hb
   replace e_w2 := e_w2.below (Nat.le_refl _) hb
   clear e_w15
   replace s11 := anyw (w2 := w21) s11
   replace s10 := anyw (w2 := w21) s10
   replace m15 := m15.tr hs rfl
   clear hd hs hb
   refine wl_op hr (ok_assign s26) inferInstance ?_; clear hr; intro a22 w22 x hr hd hs
   revert s2 s3 s4 s5 s11 s10; refine kp6 hs rfl ?_; intro s2 s3 s4 s5 s11 s10
   clear s26
   have s9 := hd 9 rfl (by decide)
   replace e_w := e_w.trans x
   replace e_w2 := e_w2.trans x
   have e_w21 := x
   replace m15 := m15.tr hs rfl
   clear hd hs x
   refine wpList_nil ?_
   refine blk_normal ?_
   refine exit_then ?_
   refine wp_reg 63 [[(11, none)], [(18, some 0)], [(19, some 1)]] [?b23_0, ?b23_1, ?b23_1] mixed (by kernel_rfl) (by kernel_rfl) hr ?t23 ?o23 ?_
   case o23 =>
    refine oc0 (fun A W hx hf => ?_) ?_
    exact ok_movE (a0 := a22) (r0 hf)
    refine oc0 (fun A W hx hf => ?_) ?_
    exact ok_addI (p2 s11 e_w21 hx (q0 ?b23_0 A W 18 hf)) (ec A (.int .i64 1)) (by omega)
    refine oc0 (fun A W hx hf => ?_) ?_
    exact ok_assign (q0 ?b23_1 A W 19 hf)
    exact OpsOk.nil
   case t23 => exact inferInstance
   clear hr; intro a24 w24 x hr hd hs
   revert s2 s3 s4 s5 s10 s9; refine kp6 hs rfl ?_; intro s2 s3 s4 s5 s10 s9
   clear s11
   have s11 := fa ?b23_1 a24 w24 11 (hd 2 11 rfl)
   replace e_w := e_w.trans x
   replace e_w2 := e_w2.trans x
   replace e_w21 := e_w21.trans x
   have e_w22 := x
   replace m15 := m15.tr hs rfl
   clear hd hs x
   refine exit_then ?_
   refine ⟨(fun (i : Nat) => N - i) (i + 1), ?_, ?_⟩
   · (try dsimp only); omega
   refine ⟨i + 1, rfl, hr, m15, e_w, e_w2, (by first | assumption | omega), ?_, ?_⟩
   · rw [take_snocB (by omega)]; exact (later e_w22 s9)
   · first | exact s11 | exact Is.int s11 (by first | omega | simp) | exact Is.bool s11 (by first | omega | simp)
 · skip
   have hlt : i = N := by simp at hlt; omega
   subst hlt
   refine wp_exit ?_
   refine then_exit ?_
   refine then_exit ?_
   refine blk_exit ?_
   refine exit_then ?_
   refine wp_seq ?_
   refine wp_seq ?_
   refine wp_reg 63 [[]] [?b25_0] mixed (by kernel_rfl) (by kernel_rfl) hr ?t25 ?o25 ?_
   case o25 =>
    refine oc0 (fun A W hx hf => ?_) ?_
    exact ok_assignc
    exact OpsOk.nil
   case t25 => exact inferInstance
   clear hr; intro a26 w26 x hr hd hs
   revert s2 s3 s4 s5 s9 s10; refine kp6 hs rfl ?_; intro s2 s3 s4 s5 s9 s10
   clear s11 s17
   have s12 := fa ?b25_0 a26 w26 12 (hd 0 12 rfl)
   replace e_w := e_w.trans x
   replace e_w2 := e_w2.trans x
   replace e_w15 := e_w15.trans x
   clear hd hs x
   refine exit_then ?_
   refine wp_block ?_
   refine wp_loop_inv (fun n A W => ∃ (j : Nat), n = i - j ∧ Fr 63 A ∧ Same D_c_rPseudo_2 a26 A ∧ Ext w W ∧ Ext w2 W ∧ (j ≤ i) ∧ (OwnB w2.heap.size 5 (Sa.b.take i ++ Da.b.take j)) (A.eval (.tmp 9)) W ∧ (Is (.int .i64 (j : Int))) (A.eval (.tmp 12)) W) ?start27 ?_
   case start27 =>
    refine ⟨_, 0, rfl, hr, Same.rfl, e_w, e_w2, (by first | assumption | omega), ?_, ?_⟩
    · rw [List.take_zero, List.append_nil]; exact (later e_w15 s9)
    · exact s12
   intro n27 a27 w27 hI
   clear e_w
   clear e_w2
   clear e_w15
   clear hr; obtain ⟨j, hn27, hr, hs, e_w, e_w2, hj, u9, u12⟩ := hI
   revert s2 s3 s4 s5 s10; refine kp5 hs rfl ?_; intro s2 s3 s4 s5 s10
   clear s9 s12
   have s9 := u9; clear u9
   have s12 := u12; clear u12
   replace s10 := anyw (w2 := w27) s10
   have m27 := hs; clear hs
   refine wp_seq ?_
   refine wp_seq ?_
   refine wp_reg 63 [[(12, none)], [(10, none)], [(27, some 0), (28, some 1)]] [?b28_0, ?b28_1, ?b28_2] mixed (by kernel_rfl) (by kernel_rfl) hr ?t28 ?o28 ?_
   case o28 =>
    refine oc0 (fun A W hx hf => ?_) ?_
    exact ok_movE (a0 := a27) (r0 hf)
    refine oc0 (fun A W hx hf => ?_) ?_
    exact ok_movE (a0 := a27) (r0 hf)
    refine oc0 (fun A W hx hf => ?_) ?_
    exact ok_lss (p1 s12 hx (q0 ?b28_0 A W 27 hf)) (p1 s10 hx (q1 ?b28_1 A W 28 hf))
    exact OpsOk.nil
   case t28 => exact inferInstance
   clear hr; intro a29 w29 x hr hd hs
   revert s2 s3 s4 s5 s9 s12; refine kp6 hs rfl ?_; intro s2 s3 s4 s5 s9 s12
   revert s10; refine kp1 hs rfl ?_; intro s10
   have s29 := fa ?b28_2 a29 w29 29 (hd 2 29 rfl)
   replace e_w := e_w.trans x
   replace e_w2 := e_w2.trans x
   have e_w27 := x
   replace m27 := m27.tr hs rfl
   clear hd hs x
   refine exit_then ?_
   refine wp_cond_split (show _ = _ from s29) (fun hlt2 => ?_) (fun hlt2 => ?_)
   · skip
     have hlt2 : j < i := by simp at hlt2; omega
     refine wp_skip ?_
     refine exit_then ?_
     refine wp_seq ?_
     refine wp_block ?_
     refine wp_reg_pre (l := [_, _, _, _, _, _]) (rest := [_, _]) 63 [[(9, none)], [(12, none)], [(5, none)], [(34, some 2), (33, some 1)], [(35, some 3)], [(36, some 4)]] [?b31_0, ?b31_1, ?b31_2, ?b31_3, ?b31_4, ?b31_5] (by kernel_rfl) (by kernel_rfl) hr ?t31 ?o31 ?_
     case o31 =>
      refine oc0 (fun A W hx hf => ?_) ?_
      exact ok_movE (a0 := a29) (r0 hf)
      refine oc0 (fun A W hx hf => ?_) ?_
      exact ok_movE (a0 := a29) (r0 hf)
      refine oc0 (fun A W hx hf => ?_) ?_
      exact ok_fieldAddr Try.underlying35 (i := 1) rfl size33 rfl (o2 s5 e_w2 hx (r0 hf))
      refine oc0 (fun A W hx hf => ?_) ?_
      exact ok_index_arrb (_) Try.underlying33 size5 (adr_take hD) hD (by decide) (q0 ?b31_2 A W 34 hf) (p2 s12 e_w27 hx (q1 ?b31_1 A W 33 hf)) (by first | omega | decide | (simp; done) | (simp; omega))
      refine oc0 (fun A W hx hf => ?_) ?_
      exact ok_loadp Try.underlying5 rfl (q0 ?b31_3 A W 35 hf)
      refine oc0 (fun A W hx hf => ?_) ?_
      exact ok_buildBs [(.tmp 36)] [_] Try.underlying22 size5 zero5 rfl rfl (by decide) (PartsOk.cons (q0 ?b31_4 A W 36 hf) (PartsOk.nil))
      exact OpsOk.nil
     case t31 => exact inferInstance
     clear hr; intro a32 w32 x hr hd hs
     have u32 := mv s9 (fa ?b31_0 a32 w32 32 (hd 0 32 rfl))
     revert s2 s3 s4 s5 s9 s12; refine kp6 hs rfl ?_; intro s2 s3 s4 s5 s9 s12
     revert s10; refine kp1 hs rfl ?_; intro s10
     clear s29
     have s32 := u32; clear u32
     have s37 := fa ?b31_5 a32 w32 37 (hd 5 37 rfl)
     replace e_w := e_w.trans x
     replace e_w2 := e_w2.trans x
     replace e_w27 := e_w27.trans x
     replace m27 := m27.tr hs rfl
     clear hd hs x
     refine wl_append_bs hr (by decide) Try.underlying22 info5 rfl (later e_w27 s32) s37 e_w2.size (by simp; omega) ?_; clear hr; intro a33 w33 hb hr hd hs
     revert s2 s3 s4 s5 s9 s12; refine kp6 hs rfl ?_; intro s2 s3 s4 s5 s9 s12
     revert s10; refine kp1 hs rfl ?_; intro s10
     clear s32 s37
     have s38 := hd
     replace e_w := e_w.below z_w_w2 hb
     replace e_w2 := e_w2.below (Nat.le_refl _) hb
     clear e_w27
     replace s12 := anyw (w2 := w33) s12
     replace s10 := anyw (w2 := w33) s10
     replace m27 := m27.tr hs rfl
     clear hd hs hb
     refine wl_op hr (ok_assign s38) inferInstance ?_; clear hr; intro a34 w34 x hr hd hs
     revert s2 s3 s4 s5 s12 s10; refine kp6 hs rfl ?_; intro s2 s3 s4 s5 s12 s10
     clear s38
     have s9 := hd 9 rfl (by decide)
     replace e_w := e_w.trans x
     replace e_w2 := e_w2.trans x
     have e_w33 := x
     replace m27 := m27.tr hs rfl
     clear hd hs x
     refine wpList_nil ?_
     refine blk_normal ?_
     refine exit_then ?_
     refine wp_reg 63 [[(12, none)], [(30, some 0)], [(31, some 1)]] [?b35_0, ?b35_1, ?b35_1] mixed (by kernel_rfl) (by kernel_rfl) hr ?t35 ?o35 ?_
     case o35 =>
      refine oc0 (fun A W hx hf => ?_) ?_
      exact ok_movE (a0 := a34) (r0 hf)
      refine oc0 (fun A W hx hf => ?_) ?_
      exact ok_addI (p2 s12 e_w33 hx (q0 ?b35_0 A W 30 hf)) (ec A (.int .i64 1)) (by omega)
      refine oc0 (fun A W hx hf => ?_) ?_
      exact ok_assign (q0 ?b35_1 A W 31 hf)
      exact OpsOk.nil
     case t35 => exact inferInstance
     clear hr; intro a36 w36 x hr hd hs
     revert s2 s3 s4 s5 s10 s9; refine kp6 hs rfl ?_; intro s2 s3 s4 s5 s10 s9
     clear s12
     have s12 := fa ?b35_1 a36 w36 12 (hd 2 12 rfl)
     replace e_w := e_w.trans x
     replace e_w2 := e_w2.trans x
     replace e_w33 := e_w33.trans x
     have e_w34 := x
     replace m27 := m27.tr hs rfl
     clear hd hs x
     refine exit_then ?_
     refine ⟨(fun (j : Nat) => i - j) (j + 1), ?_, ?_⟩
     · (try dsimp only); omega
     refine ⟨j + 1, rfl, hr, m27, e_w, e_w2, (by first | assumption | omega), ?_, ?_⟩
     · rw [take_snocB (l := Da.b) (by omega), ← List.append_assoc]; exact (later e_w34 s9)
     · first | exact s12 | exact Is.int s12 (by first | omega | simp) | exact Is.bool s12 (by first | omega | simp)
   · skip
     have hlt2 : j = i := by simp at hlt2; omega
     subst hlt2
     refine wp_exit ?_
     refine then_exit ?_
     refine then_exit ?_
     refine blk_exit ?_
     refine exit_then ?_
     refine wp_seq ?_
     refine wp_seq ?_
     skip
     refine wp_reg 63 [[(4, none)], [(39, some 0)]] [?b37_0, ?b37_1] mixed (by kernel_rfl) (by kernel_rfl) hr ?t37 ?o37 ?_
     case o37 =>
      refine oc0 (fun A W hx hf => ?_) ?_
      exact ok_fieldAddr Try.underlying35 (i := 0) rfl size4 rfl (o2 s4 e_w2 hx (r0 hf))
      refine oc0 (fun A W hx hf => ?_) ?_
      exact ok_loadc Try.underlying4 rfl (q0 ?b37_0 A W 39 hf)
      exact OpsOk.nil
     case t37 => exact inferInstance
     clear hr; intro a38 w38 x hr hd hs
     revert s2 s3 s9; refine kp3 hs rfl ?_; intro s2 s3 s9
     clear s4 s5 s12 s10 s29
     have s40 := fa ?b37_1 a38 w38 40 (hd 1 40 rfl)
     replace e_w := e_w.trans x
     replace e_w2 := e_w2.trans x
     replace e_w27 := e_w27.trans x
     clear hd hs x
     refine exit_then ?_
     refine wp_cond_split (show _ = _ from s40) (fun h6 => ?_) (fun h6 => ?_)
     · skip
       skip
       refine wp_seq ?_
       refine wp_reg_pre (l := [_, _, _, _, _, _, _, _, _, _]) (rest := [_, _]) 63 [[(9, none)], [(3, none)], [(42, some 1)], [(43, some 2)], [(3, none)], [(45, some 4)], [(46, some 5)], [(2, none)], [(48, some 7)], [(44, some 3), (47, some 6), (49, some 8)]] [?b40_0, ?b40_1, ?b40_2, ?b40_3, ?b40_4, ?b40_5, ?b40_6, ?b40_7, ?b40_8, ?b40_9] (by kernel_rfl) (by kernel_rfl) hr ?t40 ?o40 ?_
       case o40 =>
        refine oc0 (fun A W hx hf => ?_) ?_
        exact ok_movE (a0 := a38) (r0 hf)
        refine oc0 (fun A W hx hf => ?_) ?_
        exact ok_movE (a0 := a38) (r0 hf)
        refine oc0 (fun A W hx hf => ?_) ?_
        exact ok_quo (by decide) (p2 s3 e_w hx (q0 ?b40_1 A W 42 hf)) (ec A (.int .i64 256))
        refine oc0 (fun A W hx hf => ?_) ?_
        exact ok_conv8 Try.underlying3 Try.underlying5 (q0 ?b40_2 A W 43 hf)
        refine oc0 (fun A W hx hf => ?_) ?_
        exact ok_movE (a0 := a38) (r0 hf)
        refine oc0 (fun A W hx hf => ?_) ?_
        exact ok_rem (by decide) (p2 s3 e_w hx (q0 ?b40_4 A W 45 hf)) (ec A (.int .i64 256))
        refine oc0 (fun A W hx hf => ?_) ?_
        exact ok_conv8 Try.underlying3 Try.underlying5 (q0 ?b40_5 A W 46 hf)
        refine oc0 (fun A W hx hf => ?_) ?_
        exact ok_movE (a0 := a38) (r0 hf)
        refine oc0 (fun A W hx hf => ?_) ?_
        exact ok_conv8 Try.underlying3 Try.underlying5 (p2 s2 e_w hx (q0 ?b40_7 A W 48 hf))
        refine oc0 (fun A W hx hf => ?_) ?_
        exact ok_buildBs [(.const (.int .u8 0)), (.const (.int .u8 0)), (.tmp 44), (.tmp 47), (.const (.int .u8 0)), (.const (.int .u8 0)), (.const (.int .u8 0)), (.tmp 49)] [_, _, _, _, _, _, _, _] Try.underlying22 size5 zero5 rfl rfl (by decide) (PartsOk.cons (show ByteIs 0 _ _ from rfl) (PartsOk.cons (show ByteIs 0 _ _ from rfl) (PartsOk.cons (q0 ?b40_3 A W 44 hf) (PartsOk.cons (q1 ?b40_6 A W 47 hf) (PartsOk.cons (show ByteIs 0 _ _ from rfl) (PartsOk.cons (show ByteIs 0 _ _ from rfl) (PartsOk.cons (show ByteIs 0 _ _ from rfl) (PartsOk.cons (q2 ?b40_8 A W 49 hf) (PartsOk.nil)))))))))
        exact OpsOk.nil
       case t40 => exact inferInstance
       clear hr; intro a41 w41 x hr hd hs
       have u41 := mv s9 (fa ?b40_0 a41 w41 41 (hd 0 41 rfl))
       clear s2 s3 s9 s40
       have s41 := u41; clear u41
       have s50 := fa ?b40_9 a41 w41 50 (hd 9 50 rfl)
       replace e_w := e_w.trans x
       replace e_w2 := e_w2.trans x
       replace e_w27 := e_w27.trans x
       clear hd hs x
       refine wl_append_bs hr (by decide) Try.underlying22 info5 rfl (later e_w27 s41) s50 e_w2.size (by simp; omega) ?_; clear hr; intro a42 w42 hb hr hd hs
       clear s41 s50
       have s51 := hd
       replace e_w := e_w.below z_w_w2 hb
       replace e_w2 := e_w2.below (Nat.le_refl _) hb
       clear e_w27
       clear hd hs hb
       refine wl_op hr (ok_assign s51) inferInstance ?_; clear hr; intro a43 w43 x hr hd hs
       clear s51
       have s8 := hd 8 rfl (by decide)
       replace e_w := e_w.trans x
       replace e_w2 := e_w2.trans x
       clear hd hs x
       refine wpList_nil ?_
       refine exit_then ?_
       refine wp_ret ?_
       refine then_ret ?_
       refine ret_tmp Try.results31 hr e_w ?_
       first | exact OwnB.cast (OwnB.mono s8 (Nat.le_trans hB (by assumption))) (rpseudo6 h6 hN hA hD hn) | exact OwnB.cast (OwnB.mono s8 (Nat.le_trans hB (by assumption))) (rpseudo4 h6 hN hn)
     · skip
       skip
       refine wp_skip ?_
       refine exit_then ?_
       refine wp_seq ?_
       refine wp_reg_pre (l := [_, _, _, _, _, _, _, _, _, _]) (rest := [_, _]) 63 [[(9, none)], [(2, none)], [(53, some 1)], [(3, none)], [(55, some 3)], [(56, some 4)], [(3, none)], [(58, some 6)], [(59, some 7)], [(54, some 2), (57, some 5), (60, some 8)]] [?b44_0, ?b44_1, ?b44_2, ?b44_3, ?b44_4, ?b44_5, ?b44_6, ?b44_7, ?b44_8, ?b44_9] (by kernel_rfl) (by kernel_rfl) hr ?t44 ?o44 ?_
       case o44 =>
        refine oc0 (fun A W hx hf => ?_) ?_
        exact ok_movE (a0 := a38) (r0 hf)
        refine oc0 (fun A W hx hf => ?_) ?_
        exact ok_movE (a0 := a38) (r0 hf)
        refine oc0 (fun A W hx hf => ?_) ?_
        exact ok_conv8 Try.underlying3 Try.underlying5 (p2 s2 e_w hx (q0 ?b44_1 A W 53 hf))
        refine oc0 (fun A W hx hf => ?_) ?_
        exact ok_movE (a0 := a38) (r0 hf)
        refine oc0 (fun A W hx hf => ?_) ?_
        exact ok_quo (by decide) (p2 s3 e_w hx (q0 ?b44_3 A W 55 hf)) (ec A (.int .i64 256))
        refine oc0 (fun A W hx hf => ?_) ?_
        exact ok_conv8 Try.underlying3 Try.underlying5 (q0 ?b44_4 A W 56 hf)
        refine oc0 (fun A W hx hf => ?_) ?_
        exact ok_movE (a0 := a38) (r0 hf)
        refine oc0 (fun A W hx hf => ?_) ?_
        exact ok_rem (by decide) (p2 s3 e_w hx (q0 ?b44_6 A W 58 hf)) (ec A (.int .i64 256))
        refine oc0 (fun A W hx hf => ?_) ?_
        exact ok_conv8 Try.underlying3 Try.underlying5 (q0 ?b44_7 A W 59 hf)
        refine oc0 (fun A W hx hf => ?_) ?_
        exact ok_buildBs [(.const (.int .u8 0)), (.tmp 54), (.tmp 57), (.tmp 60)] [_, _, _, _] Try.underlying22 size5 zero5 rfl rfl (by decide) (PartsOk.cons (show ByteIs 0 _ _ from rfl) (PartsOk.cons (q0 ?b44_2 A W 54 hf) (PartsOk.cons (q1 ?b44_5 A W 57 hf) (PartsOk.cons (q2 ?b44_8 A W 60 hf) (PartsOk.nil)))))
        exact OpsOk.nil
       case t44 => exact inferInstance
       clear hr; intro a45 w45 x hr hd hs
       have u52 := mv s9 (fa ?b44_0 a45 w45 52 (hd 0 52 rfl))
       clear s2 s3 s9 s40
       have s52 := u52; clear u52
       have s61 := fa ?b44_9 a45 w45 61 (hd 9 61 rfl)
       replace e_w := e_w.trans x
       replace e_w2 := e_w2.trans x
       replace e_w27 := e_w27.trans x
       clear hd hs x
       refine wl_append_bs hr (by decide) Try.underlying22 info5 rfl (later e_w27 s52) s61 e_w2.size (by simp; omega) ?_; clear hr; intro a46 w46 hb hr hd hs
       clear s52 s61
       have s62 := hd
       replace e_w := e_w.below z_w_w2 hb
       replace e_w2 := e_w2.below (Nat.le_refl _) hb
       clear e_w27
       clear hd hs hb
       refine wl_op hr (ok_assign s62) inferInstance ?_; clear hr; intro a47 w47 x hr hd hs
       clear s62
       have s8 := hd 8 rfl (by decide)
       replace e_w := e_w.trans x
       replace e_w2 := e_w2.trans x
       clear hd hs x
       refine wpList_nil ?_
       refine exit_then ?_
       refine wp_ret ?_
       refine ret_tmp Try.results31 hr e_w ?_
       first | exact OwnB.cast (OwnB.mono s8 (Nat.le_trans hB (by assumption))) (rpseudo6 h6 hN hA hD hn) | exact OwnB.cast (OwnB.mono s8 (Nat.le_trans hB (by assumption))) (rpseudo4 h6 hN hn)

end Go.Proofs.Yteccaejdgefdpaa
