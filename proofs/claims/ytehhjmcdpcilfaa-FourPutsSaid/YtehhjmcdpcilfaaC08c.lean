import Derived.Test.YtehhjmcdpcilfaaC08a
namespace Go.Proofs.Ytehhjmcdpcilfaa
open Go.RowKit
set_option linter.unusedVariables false
set_option maxRecDepth 4000
theorem c_in {x0 x1 : Value} {w : World} {m q : Int} (h0 : (Is (.int .i64 m)) x0 w) (h1 : (Is (.int .i64 q)) x1 w)  :
    Calls Try.prog 22 #[x0, x1] w (Ret (Is (.bool (inB m q))) w) := by
 refine enter Try.func22 rfl Try.ntmps22 (k := 2) rfl (by decide) (fun a0 hr hargs => ?_)
 have s0 := sarg h0 (hargs 0 (by decide))
 have s1 := sarg h1 (hargs 1 (by decide))
 clear hargs
 refine wp_seq ?_
 refine wp_reg 12 [[]] [?b1_0] mixed (by kernel_rfl) (by kernel_rfl) hr ?t1 ?o1 ?_
 case o1 =>
  refine oc0 (fun A W hx hf => ?_) ?_
  exact ok_assignc
  exact OpsOk.nil
 case t1 => exact inferInstance
 clear hr; intro a2 w2 x hr hd hs
 revert s0 s1; refine kp2 hs rfl ?_; intro s0 s1
 have e_w := x
 clear hd hs x
 refine exit_then ?_
 refine wp_seq ?_
 refine wp_reg 12 [[(0, none)], [(5, some 0)], [(6, some 1)], [(0, none), (7, some 2)], [(1, none), (7, some 2)], [(8, some 3), (9, some 4), (7, some 2)], [(7, some 2), (10, some 5)], [(11, some 6)]] [?b3_0, ?b3_1, ?b3_1, ?b3_3, ?b3_4, ?b3_5, ?b3_6, ?b3_6] mixed (by kernel_rfl) (by kernel_rfl) hr ?t3 ?o3 ?_
 case o3 =>
  refine oc0 (fun A W hx hf => ?_) ?_
  exact ok_movE (a0 := a2) (r0 hf)
  refine oc0 (fun A W hx hf => ?_) ?_
  exact ok_geq (p2 s0 e_w hx (q0 ?b3_0 A W 5 hf)) (ec A (.int .i64 0))
  refine oc0 (fun A W hx hf => ?_) ?_
  exact ok_move (q0 ?b3_1 A W 6 hf)
  refine ocg 7 ?_ (fun A W hx hf => ?_) ?_
  rfl
  exact gd_t (q1 ?b3_1 A W 7 hf) (fun hc => ok_movE (a0 := a2) (r0 hf))
  refine ocg 7 ?_ (fun A W hx hf => ?_) ?_
  rfl
  exact gd_t (q1 ?b3_1 A W 7 hf) (fun hc => ok_movE (a0 := a2) (r0 hf))
  refine ocg 7 ?_ (fun A W hx hf => ?_) ?_
  rfl
  exact gd_t (q2 ?b3_1 A W 7 hf) (fun hc => ok_leq (p2 s0 e_w hx (G.get (q0 ?b3_3 A W 8 hf) hc)) (p2 s1 e_w hx (G.get (q1 ?b3_4 A W 9 hf) hc)))
  refine oc0 (fun A W hx hf => ?_) ?_
  exact ok_and (q0 ?b3_1 A W 7 hf) (q1 ?b3_5 A W 10 hf)
  refine oc0 (fun A W hx hf => ?_) ?_
  exact ok_assign (q0 ?b3_6 A W 11 hf)
  exact OpsOk.nil
 case t3 => exact inferInstance
 clear hr; intro a4 w4 x hr hd hs
 clear s0 s1
 have s4 := fa ?b3_6 a4 w4 4 (hd 7 4 rfl)
 replace e_w := e_w.trans x
 clear hd hs x
 refine exit_then ?_
 refine wp_ret ?_
 refine ret_tmp Try.results22 hr e_w ?_
 exact Is.bool s4 (by unfold inB; rfl)

theorem c_short {x0 : Value} {w : World} {Sa : Adr} (h0 : (Is (AdrV Sa)) x0 w) (hA : Sa.b.length = 16) :
    Calls Try.prog 23 #[x0] w (Ret (Is (.bool (shortA Sa))) w) := by
 refine enter Try.func23 rfl Try.ntmps23 (k := 1) rfl (by decide) (fun a0 hr hargs => ?_)
 have s0 := sarg h0 (hargs 0 (by decide))
 clear hargs
 refine wp_seq ?_
 refine wp_reg 12 [[(0, none)], []] [?b1_0, ?b1_1] mixed (by kernel_rfl) (by kernel_rfl) hr ?t1 ?o1 ?_
 case o1 =>
  refine oc0 (fun A W hx hf => ?_) ?_
  exact ok_boxA (o1 s0 hx (r0 hf))
  refine oc0 (fun A W hx hf => ?_) ?_
  exact ok_assignc
  exact OpsOk.nil
 case t1 => exact inferInstance
 clear hr; intro a2 w2 x hr hd hs
 clear s0
 have s1 := fa ?b1_0 a2 w2 1 (hd 0 1 rfl)
 have e_w := x
 clear hd hs x
 refine exit_then ?_
 refine wp_seq ?_
 refine wp_reg 12 [[(1, none)], [(3, some 0)], [(4, some 1)], [(5, some 2)], [(1, none), (6, some 3)], [(7, some 4), (6, some 3)], [(8, some 5), (6, some 3)], [(9, some 6), (6, some 3)], [(6, some 3), (10, some 7)], [(11, some 8)]] [?b3_0, ?b3_1, ?b3_2, ?b3_2, ?b3_4, ?b3_5, ?b3_6, ?b3_7, ?b3_8, ?b3_8] mixed (by kernel_rfl) (by kernel_rfl) hr ?t3 ?o3 ?_
 case o3 =>
  refine oc0 (fun A W hx hf => ?_) ?_
  exact ok_fieldAddr Try.underlying26 (i := 0) rfl size4 rfl (o1 s1 hx (r0 hf))
  refine oc0 (fun A W hx hf => ?_) ?_
  exact ok_loadc Try.underlying4 rfl (q0 ?b3_0 A W 3 hf)
  refine oc0 (fun A W hx hf => ?_) ?_
  exact ok_not (q0 ?b3_1 A W 4 hf)
  refine oc0 (fun A W hx hf => ?_) ?_
  exact ok_move (q0 ?b3_2 A W 5 hf)
  refine ocg 6 ?_ (fun A W hx hf => ?_) ?_
  rfl
  exact gd_t (q1 ?b3_2 A W 6 hf) (fun hc => ok_fieldAddr Try.underlying26 (i := 1) rfl size24 rfl (o1 s1 hx (r0 hf)))
  refine ocg 6 ?_ (fun A W hx hf => ?_) ?_
  rfl
  exact gd_t (q1 ?b3_2 A W 6 hf) (fun hc => ok_arr_lo 4 Try.underlying24 size5 (adr_take hA) hA (by decide) (G.get (q0 ?b3_4 A W 7 hf) hc) (ec A (.int .i64 4)) (by first | omega | decide | (simp; done) | (simp; omega)))
  refine ocg 6 ?_ (fun A W hx hf => ?_) ?_
  rfl
  exact gd_t (q1 ?b3_2 A W 6 hf) (fun hc => ok_call2 body30 (c_ContainsFunc (G.get (q0 ?b3_5 A W 8 hf) hc) (show Is (FnV 31) (A.eval (.func 31)) _ from rfl) body31 fun c x w hc => c_short1 hc))
  refine ocg 6 ?_ (fun A W hx hf => ?_) ?_
  rfl
  exact gd_t (q1 ?b3_2 A W 6 hf) (fun hc => ok_not (G.get (q0 ?b3_6 A W 9 hf) hc))
  refine oc0 (fun A W hx hf => ?_) ?_
  exact ok_and (q0 ?b3_2 A W 6 hf) (q1 ?b3_7 A W 10 hf)
  refine oc0 (fun A W hx hf => ?_) ?_
  exact ok_assign (q0 ?b3_8 A W 11 hf)
  exact OpsOk.nil
 case t3 => exact inferInstance
 clear hr; intro a4 w4 x hr hd hs
 clear s1
 have s2 := fa ?b3_8 a4 w4 2 (hd 9 2 rfl)
 replace e_w := e_w.trans x
 clear hd hs x
 refine exit_then ?_
 refine wp_ret ?_
 refine ret_tmp Try.results23 hr e_w ?_
 exact Is.bool s2 (by unfold shortA; rfl)

def D_c_four_Put_0 : List Tmp := [4]
def D_c_four_Put_1 : List Tmp := [5, 7, 81, 82, 83, 84, 85, 86, 87, 88, 89, 90]
theorem c_four_Put {x0 : Value} {w : World} {H : FourL} {B : Nat} (h0 : (Is (FourV H)) x0 w) (hH : FourOk H) (hB : B ≤ w.heap.size) :
    Calls Try.prog 12 #[x0] w (Ret (Tup2 (OwnB B 5 (fourPutR H).1) (Is (.int .i64 (fourPutR H).2))) w) := by
 have hs16 := hH.1
 have hd16 := hH.2
 refine enter Try.func12 rfl Try.ntmps12 (k := 1) rfl (by decide) (fun a0 hr hargs => ?_)
 have s0 := sarg h0 (hargs 0 (by decide))
 clear hargs
 refine wp_seq ?_
 refine wp_reg 109 [[(0, none)], [], []] [?b1_0, ?b1_1, ?b1_2] mixed (by kernel_rfl) (by kernel_rfl) hr ?t1 ?o1 ?_
 case o1 =>
  refine oc0 (fun A W hx hf => ?_) ?_
  exact ok_boxS (fourS2 H) [1, 1, 1, 1, 1, 1, 1, 1, 1, 16, 1, 16] (o1 s0 hx (r0 hf)) (by exact fourS2_lens hH) hx.size
  refine oc0 (fun A W hx hf => ?_) ?_
  exact ok_assignv (OwnBA 0 w.heap.size 5 []) (fun _ => ownBA_nil)
  refine oc0 (fun A W hx hf => ?_) ?_
  exact ok_assignc
  exact OpsOk.nil
 case t1 => exact inferInstance
 clear hr; intro a2 w2 x hr hd hs
 clear s0
 have s1 := fa ?b1_0 a2 w2 1 (hd 0 1 rfl)
 obtain ⟨g2_1, q2_1⟩ := PxN.at s1; clear s1; have n2_1 := PxS.lt q2_1
 have s1 := q2_1; clear q2_1
 have e_w := x
 clear hd hs x
 refine exit_then ?_
 refine wp_seq ?_
 refine wp_seq ?_
 refine wp_reg 109 [[(1, none)], [(8, some 0)], [(9, some 1)], [(10, some 2)], [(1, none), (11, some 3)], [(12, some 4), (11, some 3)], [(13, some 5), (11, some 3)], [(11, some 3), (14, some 6)], [(15, some 7)], [(1, none), (16, some 8)], [(17, some 9), (16, some 8)], [(18, some 10), (16, some 8)], [(19, some 11), (16, some 8)], [(16, some 8), (20, some 12)], [(21, some 13)], [(1, none), (22, some 14)], [(23, some 15), (22, some 14)], [(24, some 16), (22, some 14)], [(25, some 17), (22, some 14)], [(22, some 14), (26, some 18)], [(27, some 19)], [(1, none), (28, some 20)], [(29, some 21), (28, some 20)], [(30, some 22), (28, some 20)], [(31, some 23), (28, some 20)], [(28, some 20), (32, some 24)], [(33, some 25)], [(1, none), (34, some 26)], [(35, some 27), (34, some 26)], [(36, some 28), (34, some 26)], [(37, some 29), (34, some 26)], [(34, some 26), (38, some 30)], [(39, some 31)], [(1, none), (40, some 32)], [(41, some 33), (40, some 32)], [(42, some 34), (40, some 32)], [(43, some 35), (40, some 32)], [(40, some 32), (44, some 36)], [(45, some 37)], [(1, none), (46, some 38)], [(47, some 39), (46, some 38)], [(46, some 38), (48, some 40)], [(49, some 41)], [(1, none), (50, some 42)], [(51, some 43), (50, some 42)], [(52, some 44), (50, some 42)], [(53, some 45), (50, some 42)], [(50, some 42), (54, some 46)], [(55, some 47)], [(1, none), (56, some 48)], [(57, some 49), (56, some 48)], [(58, some 50), (56, some 48)], [(59, some 51), (56, some 48)], [(56, some 48), (60, some 52)]] [?b3_0, ?b3_1, ?b3_2, ?b3_2, ?b3_4, ?b3_5, ?b3_6, ?b3_7, ?b3_7, ?b3_9, ?b3_10, ?b3_11, ?b3_12, ?b3_13, ?b3_13, ?b3_15, ?b3_16, ?b3_17, ?b3_18, ?b3_19, ?b3_19, ?b3_21, ?b3_22, ?b3_23, ?b3_24, ?b3_25, ?b3_25, ?b3_27, ?b3_28, ?b3_29, ?b3_30, ?b3_31, ?b3_31, ?b3_33, ?b3_34, ?b3_35, ?b3_36, ?b3_37, ?b3_37, ?b3_39, ?b3_40, ?b3_41, ?b3_41, ?b3_43, ?b3_44, ?b3_45, ?b3_46, ?b3_47, ?b3_47, ?b3_49, ?b3_50, ?b3_51, ?b3_52, ?b3_53] mixed (by kernel_rfl) (by kernel_rfl) hr ?t3 ?o3 ?_
 case o3 =>
  refine oc0 (fun A W hx hf => ?_) ?_
  exact ok_fieldS 0 Try.underlying28 (k := 0) rfl size3 rfl (o1 s1 hx (r0 hf)) rfl
  refine oc0 (fun A W hx hf => ?_) ?_
  exact ok_loadS Try.underlying3 rfl (q0 ?b3_0 A W 8 hf) rfl
  refine oc0 (fun A W hx hf => ?_) ?_
  exact ok_neq (q0 ?b3_1 A W 9 hf) (ec A (.int .i64 20))
  refine oc0 (fun A W hx hf => ?_) ?_
  exact ok_move (q0 ?b3_2 A W 10 hf)
  refine ocg 11 ?_ (fun A W hx hf => ?_) ?_
  rfl
  exact gd_f (q1 ?b3_2 A W 11 hf) (fun hc => ok_fieldS 1 Try.underlying28 (k := 1) rfl size3 rfl (o1 s1 hx (r0 hf)) rfl)
  refine ocg 11 ?_ (fun A W hx hf => ?_) ?_
  rfl
  exact gd_f (q1 ?b3_2 A W 11 hf) (fun hc => ok_loadS Try.underlying3 rfl (G.get (q0 ?b3_4 A W 12 hf) hc) rfl)
  refine ocg 11 ?_ (fun A W hx hf => ?_) ?_
  rfl
  exact gd_f (q1 ?b3_2 A W 11 hf) (fun hc => ok_lss (G.get (q0 ?b3_5 A W 13 hf) hc) (ec A (.int .i64 20)))
  refine oc0 (fun A W hx hf => ?_) ?_
  exact ok_or (q0 ?b3_2 A W 11 hf) (q1 ?b3_6 A W 14 hf)
  refine oc0 (fun A W hx hf => ?_) ?_
  exact ok_move (q0 ?b3_7 A W 15 hf)
  refine ocg 16 ?_ (fun A W hx hf => ?_) ?_
  rfl
  exact gd_f (q1 ?b3_7 A W 16 hf) (fun hc => ok_fieldS 1 Try.underlying28 (k := 1) rfl size3 rfl (o1 s1 hx (r0 hf)) rfl)
  refine ocg 16 ?_ (fun A W hx hf => ?_) ?_
  rfl
  exact gd_f (q1 ?b3_7 A W 16 hf) (fun hc => ok_loadS Try.underlying3 rfl (G.get (q0 ?b3_9 A W 17 hf) hc) rfl)
  refine ocg 16 ?_ (fun A W hx hf => ?_) ?_
  rfl
  exact gd_f (q1 ?b3_7 A W 16 hf) (fun hc => ok_call2 body22 (c_in (G.get (q0 ?b3_10 A W 18 hf) hc) (show Is (.int .i64 65535) (A.eval (.const (.int .i64 65535))) _ from rfl)))
  refine ocg 16 ?_ (fun A W hx hf => ?_) ?_
  rfl
  exact gd_f (q1 ?b3_7 A W 16 hf) (fun hc => ok_not (G.get (q0 ?b3_11 A W 19 hf) hc))
  refine oc0 (fun A W hx hf => ?_) ?_
  exact ok_or (q0 ?b3_7 A W 16 hf) (q1 ?b3_12 A W 20 hf)
  refine oc0 (fun A W hx hf => ?_) ?_
  exact ok_move (q0 ?b3_13 A W 21 hf)
  refine ocg 22 ?_ (fun A W hx hf => ?_) ?_
  rfl
  exact gd_f (q1 ?b3_13 A W 22 hf) (fun hc => ok_fieldS 2 Try.underlying28 (k := 2) rfl size3 rfl (o1 s1 hx (r0 hf)) rfl)
  refine ocg 22 ?_ (fun A W hx hf => ?_) ?_
  rfl
  exact gd_f (q1 ?b3_13 A W 22 hf) (fun hc => ok_loadS Try.underlying3 rfl (G.get (q0 ?b3_15 A W 23 hf) hc) rfl)
  refine ocg 22 ?_ (fun A W hx hf => ?_) ?_
  rfl
  exact gd_f (q1 ?b3_13 A W 22 hf) (fun hc => ok_call2 body22 (c_in (G.get (q0 ?b3_16 A W 24 hf) hc) (show Is (.int .i64 255) (A.eval (.const (.int .i64 255))) _ from rfl)))
  refine ocg 22 ?_ (fun A W hx hf => ?_) ?_
  rfl
  exact gd_f (q1 ?b3_13 A W 22 hf) (fun hc => ok_not (G.get (q0 ?b3_17 A W 25 hf) hc))
  refine oc0 (fun A W hx hf => ?_) ?_
  exact ok_or (q0 ?b3_13 A W 22 hf) (q1 ?b3_18 A W 26 hf)
  refine oc0 (fun A W hx hf => ?_) ?_
  exact ok_move (q0 ?b3_19 A W 27 hf)
  refine ocg 28 ?_ (fun A W hx hf => ?_) ?_
  rfl
  exact gd_f (q1 ?b3_19 A W 28 hf) (fun hc => ok_fieldS 6 Try.underlying28 (k := 6) rfl size3 rfl (o1 s1 hx (r0 hf)) rfl)
  refine ocg 28 ?_ (fun A W hx hf => ?_) ?_
  rfl
  exact gd_f (q1 ?b3_19 A W 28 hf) (fun hc => ok_loadS Try.underlying3 rfl (G.get (q0 ?b3_21 A W 29 hf) hc) rfl)
  refine ocg 28 ?_ (fun A W hx hf => ?_) ?_
  rfl
  exact gd_f (q1 ?b3_19 A W 28 hf) (fun hc => ok_call2 body22 (c_in (G.get (q0 ?b3_22 A W 30 hf) hc) (show Is (.int .i64 255) (A.eval (.const (.int .i64 255))) _ from rfl)))
  refine ocg 28 ?_ (fun A W hx hf => ?_) ?_
  rfl
  exact gd_f (q1 ?b3_19 A W 28 hf) (fun hc => ok_not (G.get (q0 ?b3_23 A W 31 hf) hc))
  refine oc0 (fun A W hx hf => ?_) ?_
  exact ok_or (q0 ?b3_19 A W 28 hf) (q1 ?b3_24 A W 32 hf)
  refine oc0 (fun A W hx hf => ?_) ?_
  exact ok_move (q0 ?b3_25 A W 33 hf)
  refine ocg 34 ?_ (fun A W hx hf => ?_) ?_
  rfl
  exact gd_f (q1 ?b3_25 A W 34 hf) (fun hc => ok_fieldS 7 Try.underlying28 (k := 7) rfl size3 rfl (o1 s1 hx (r0 hf)) rfl)
  refine ocg 34 ?_ (fun A W hx hf => ?_) ?_
  rfl
  exact gd_f (q1 ?b3_25 A W 34 hf) (fun hc => ok_loadS Try.underlying3 rfl (G.get (q0 ?b3_27 A W 35 hf) hc) rfl)
  refine ocg 34 ?_ (fun A W hx hf => ?_) ?_
  rfl
  exact gd_f (q1 ?b3_25 A W 34 hf) (fun hc => ok_call2 body22 (c_in (G.get (q0 ?b3_28 A W 36 hf) hc) (show Is (.int .i64 255) (A.eval (.const (.int .i64 255))) _ from rfl)))
  refine ocg 34 ?_ (fun A W hx hf => ?_) ?_
  rfl
  exact gd_f (q1 ?b3_25 A W 34 hf) (fun hc => ok_not (G.get (q0 ?b3_29 A W 37 hf) hc))
  refine oc0 (fun A W hx hf => ?_) ?_
  exact ok_or (q0 ?b3_25 A W 34 hf) (q1 ?b3_30 A W 38 hf)
  refine oc0 (fun A W hx hf => ?_) ?_
  exact ok_move (q0 ?b3_31 A W 39 hf)
  refine ocg 40 ?_ (fun A W hx hf => ?_) ?_
  rfl
  exact gd_f (q1 ?b3_31 A W 40 hf) (fun hc => ok_fieldS 3 Try.underlying28 (k := 3) rfl size3 rfl (o1 s1 hx (r0 hf)) rfl)
  refine ocg 40 ?_ (fun A W hx hf => ?_) ?_
  rfl
  exact gd_f (q1 ?b3_31 A W 40 hf) (fun hc => ok_loadS Try.underlying3 rfl (G.get (q0 ?b3_33 A W 41 hf) hc) rfl)
  refine ocg 40 ?_ (fun A W hx hf => ?_) ?_
  rfl
  exact gd_f (q1 ?b3_31 A W 40 hf) (fun hc => ok_call2 body22 (c_in (G.get (q0 ?b3_34 A W 42 hf) hc) (show Is (.int .i64 65535) (A.eval (.const (.int .i64 65535))) _ from rfl)))
  refine ocg 40 ?_ (fun A W hx hf => ?_) ?_
  rfl
  exact gd_f (q1 ?b3_31 A W 40 hf) (fun hc => ok_not (G.get (q0 ?b3_35 A W 43 hf) hc))
  refine oc0 (fun A W hx hf => ?_) ?_
  exact ok_or (q0 ?b3_31 A W 40 hf) (q1 ?b3_36 A W 44 hf)
  refine oc0 (fun A W hx hf => ?_) ?_
  exact ok_move (q0 ?b3_37 A W 45 hf)
  refine ocg 46 ?_ (fun A W hx hf => ?_) ?_
  rfl
  exact gd_f (q1 ?b3_37 A W 46 hf) (fun hc => ok_fieldS 4 Try.underlying28 (k := 4) rfl size4 rfl (o1 s1 hx (r0 hf)) rfl)
  refine ocg 46 ?_ (fun A W hx hf => ?_) ?_
  rfl
  exact gd_f (q1 ?b3_37 A W 46 hf) (fun hc => ok_loadS Try.underlying4 rfl (G.get (q0 ?b3_39 A W 47 hf) hc) rfl)
  refine oc0 (fun A W hx hf => ?_) ?_
  exact ok_or (q0 ?b3_37 A W 46 hf) (q1 ?b3_40 A W 48 hf)
  refine oc0 (fun A W hx hf => ?_) ?_
  exact ok_move (q0 ?b3_41 A W 49 hf)
  refine ocg 50 ?_ (fun A W hx hf => ?_) ?_
  rfl
  exact gd_f (q1 ?b3_41 A W 50 hf) (fun hc => ok_fieldS 8 Try.underlying28 (k := 8) rfl size26 rfl (o1 s1 hx (r0 hf)) rfl)
  refine ocg 50 ?_ (fun A W hx hf => ?_) ?_
  rfl
  exact gd_f (q1 ?b3_41 A W 50 hf) (fun hc => ok_loadAggS 10 Try.underlying26 rfl size26 (G.get (q0 ?b3_43 A W 51 hf) hc) rfl)
  refine ocg 50 ?_ (fun A W hx hf => ?_) ?_
  rfl
  exact gd_f (q1 ?b3_41 A W 50 hf) (fun hc => ok_call1 body23 (c_short (Is.conv (G.get (q0 ?b3_44 A W 52 hf) hc) (adr_seg H.src)) (by exact hH.1)))
  refine ocg 50 ?_ (fun A W hx hf => ?_) ?_
  rfl
  exact gd_f (q1 ?b3_41 A W 50 hf) (fun hc => ok_not (G.get (q0 ?b3_45 A W 53 hf) hc))
  refine oc0 (fun A W hx hf => ?_) ?_
  exact ok_or (q0 ?b3_41 A W 50 hf) (q1 ?b3_46 A W 54 hf)
  refine oc0 (fun A W hx hf => ?_) ?_
  exact ok_move (q0 ?b3_47 A W 55 hf)
  refine ocg 56 ?_ (fun A W hx hf => ?_) ?_
  rfl
  exact gd_f (q1 ?b3_47 A W 56 hf) (fun hc => ok_fieldS 10 Try.underlying28 (k := 9) rfl size26 rfl (o1 s1 hx (r0 hf)) rfl)
  refine ocg 56 ?_ (fun A W hx hf => ?_) ?_
  rfl
  exact gd_f (q1 ?b3_47 A W 56 hf) (fun hc => ok_loadAggS 12 Try.underlying26 rfl size26 (G.get (q0 ?b3_49 A W 57 hf) hc) rfl)
  refine ocg 56 ?_ (fun A W hx hf => ?_) ?_
  rfl
  exact gd_f (q1 ?b3_47 A W 56 hf) (fun hc => ok_call1 body23 (c_short (Is.conv (G.get (q0 ?b3_50 A W 58 hf) hc) (adr_seg H.dst)) (by exact hH.2)))
  refine ocg 56 ?_ (fun A W hx hf => ?_) ?_
  rfl
  exact gd_f (q1 ?b3_47 A W 56 hf) (fun hc => ok_not (G.get (q0 ?b3_51 A W 59 hf) hc))
  refine oc0 (fun A W hx hf => ?_) ?_
  exact ok_or (q0 ?b3_47 A W 56 hf) (q1 ?b3_52 A W 60 hf)
  exact OpsOk.nil
 case t3 => repeat (first | exact stb_nil | refine stb_cons ?_)
 clear hr; intro a4 w4 x hr hd hs
 revert s1; refine kp1 hs rfl ?_; intro s1
 have s61 := fa ?b3_53 a4 w4 61 (hd 53 61 rfl)
 replace e_w := e_w.trans x
 have e_w2 := x
 clear hd hs x
 refine exit_then ?_
 refine wp_cond_split (show _ = _ from s61) (fun hr9 => ?_) (fun hr9 => ?_)
 · skip
   have hr9 : fourRight H = false := by have q9 := four_right H; rw [hr9] at q9; simpa using q9.symm
   refine wp_seq ?_
   refine wp_reg 109 [[], []] [?b6_0, ?b6_1] mixed (by kernel_rfl) (by kernel_rfl) hr ?t6 ?o6 ?_
   case o6 =>
    refine oc0 (fun A W hx hf => ?_) ?_
    exact ok_assignv (OwnBA 0 w.heap.size 5 []) (fun _ => ownBA_nil)
    refine oc0 (fun A W hx hf => ?_) ?_
    exact ok_assignc
    exact OpsOk.nil
   case t6 => exact inferInstance
   clear hr; intro a7 w7 x hr hd hs
   clear s1 s61
   have s2 := fa ?b6_0 a7 w7 2 (hd 0 2 rfl)
   have s3 := fa ?b6_1 a7 w7 3 (hd 1 3 rfl)
   replace e_w := e_w.trans x
   clear e_w2
   clear hd hs x
   refine exit_then ?_
   refine wp_ret ?_
   refine then_ret ?_
   refine ret_tmp2 Try.results12 hr e_w ?_
   first | exact ⟨_, _, rfl, OwnB.cast (OwnB.mono s2.own hB) (by unfold fourPutR; rw [if_neg (by rw [hr9]; decide)]), Is.int s3 (by unfold fourPutR; rw [if_neg (by rw [hr9]; decide)])⟩ | exact ⟨_, _, rfl, OwnB.cast (OwnB.mono s2.own hB) (by unfold fourPutR; rw [if_pos hr9]), Is.int s3 (by unfold fourPutR; rw [if_pos hr9])⟩
 · skip
   have hr9 : fourRight H = true := by have q9 := four_right H; rw [hr9] at q9; simpa using q9.symm
   obtain ⟨k1, k2, k3, k4, k5, k6, k7⟩ := fourRight_bd hr9
   refine wp_skip ?_
   refine exit_then ?_
   refine wp_seq ?_
   refine wp_reg 109 [[]] [?b8_0] mixed (by kernel_rfl) (by kernel_rfl) hr ?t8 ?o8 ?_
   case o8 =>
    refine oc0 (fun A W hx hf => ?_) ?_
    exact ok_assignc
    exact OpsOk.nil
   case t8 => exact inferInstance
   clear hr; intro a9 w9 x hr hd hs
   revert s1; refine kp1 hs rfl ?_; intro s1
   clear s61
   have s4 := fa ?b8_0 a9 w9 4 (hd 0 4 rfl)
   replace e_w := e_w.trans x
   replace e_w2 := e_w2.trans x
   clear hd hs x
   refine exit_then ?_
   refine wp_seq ?_
   refine wp_seq ?_
   refine wp_reg 109 [[(1, none)], [(62, some 0)]] [?b10_0, ?b10_1] mixed (by kernel_rfl) (by kernel_rfl) hr ?t10 ?o10 ?_
   case o10 =>
    refine oc0 (fun A W hx hf => ?_) ?_
    exact ok_fieldS 5 Try.underlying28 (k := 5) rfl size4 rfl (o2 s1 e_w2 hx (r0 hf)) rfl
    refine oc0 (fun A W hx hf => ?_) ?_
    exact ok_loadS Try.underlying4 rfl (q0 ?b10_0 A W 62 hf) rfl
    exact OpsOk.nil
   case t10 => exact inferInstance
   clear hr; intro a11 w11 x hr hd hs
   revert s1 s4; refine kp2 hs rfl ?_; intro s1 s4
   have s63 := fa ?b10_1 a11 w11 63 (hd 1 63 rfl)
   replace e_w := e_w.trans x
   replace e_w2 := e_w2.trans x
   have e_w9 := x
   clear hd hs x
   refine exit_then ?_
   refine wp_cut (fun A W => Fr 109 A ∧ Same D_c_four_Put_0 a11 A ∧ Ext w W ∧ (PxS g2_1 w.heap.size [1, 1, 1, 1, 1, 1, 1, 1, 1, 16, 1, 16] (fourS2 H) 0) (A.eval (.tmp 1)) W ∧ (Is (.int .i64 (if H.keep then 16384 else 0))) (A.eval (.tmp 4)) W) ?cut12 ?_
   case cut12 =>
    have m12 : Same D_c_four_Put_0 a11 a11 := Same.rfl
    refine wp_cond_split (show _ = _ from s63) (fun hk => ?_) (fun hk => ?_)
    · skip
      skip
      refine wp_reg 109 [[]] [?b14_0] mixed (by kernel_rfl) (by kernel_rfl) hr ?t14 ?o14 ?_
      case o14 =>
       refine oc0 (fun A W hx hf => ?_) ?_
       exact ok_assignc
       exact OpsOk.nil
      case t14 => exact inferInstance
      clear hr; intro a15 w15 x hr hd hs
      revert s1; refine kp1 hs rfl ?_; intro s1
      clear s4 s63
      have s4 := fa ?b14_0 a15 w15 4 (hd 0 4 rfl)
      replace e_w := e_w.trans x
      replace e_w2 := e_w2.trans x
      clear e_w9
      replace m12 := m12.tr hs rfl
      clear hd hs x
      refine exit_then ?_
      refine ⟨hr, m12, e_w, ?_, ?_⟩
      · first | exact (later e_w2 s1) | exact Is.int (later e_w2 s1) (by first | omega | simp) | exact Is.bool (later e_w2 s1) (by first | omega | simp)
      · first | exact Is.int s4 (by rw [if_pos hk]) | exact Is.int s4 (by rw [if_neg (by rw [hk]; decide)])
    · skip
      skip
      refine wp_skip ?_
      refine exit_then ?_
      refine ⟨hr, m12, e_w, ?_, ?_⟩
      · first | exact (later e_w2 s1) | exact Is.int (later e_w2 s1) (by first | omega | simp) | exact Is.bool (later e_w2 s1) (by first | omega | simp)
      · first | exact Is.int (later e_w9 s4) (by rw [if_pos hk]) | exact Is.int (later e_w9 s4) (by rw [if_neg (by rw [hk]; decide)])
   intro a12 w12 hI
   clear e_w
   clear e_w2
   clear e_w9
   clear hr; obtain ⟨hr, hs, e_w, u1, u4⟩ := hI
   clear s1 s4 s63
   have s1 := u1; clear u1
   have s4 := u4; clear u4
   clear hs
   refine wp_seq ?_
   refine wp_reg 109 [[(1, none)], [(64, some 0)], [(65, some 1)], [(66, some 2)], [(67, some 3)]] [?b16_0, ?b16_1, ?b16_2, ?b16_3, ?b16_3] mixed (by kernel_rfl) (by kernel_rfl) hr ?t16 ?o16 ?_
   case o16 =>
    refine oc0 (fun A W hx hf => ?_) ?_
    exact ok_fieldS 2 Try.underlying28 (k := 2) rfl size3 rfl (o1 s1 hx (r0 hf)) rfl
    refine oc0 (fun A W hx hf => ?_) ?_
    exact ok_loadS Try.underlying3 rfl (q0 ?b16_0 A W 64 hf) rfl
    refine oc0 (fun A W hx hf => ?_) ?_
    exact ok_conv8 Try.underlying3 Try.underlying5 (q0 ?b16_1 A W 65 hf)
    refine oc0 (fun A W hx hf => ?_) ?_
    exact ok_ownBs [(.const (.int .u8 69)), (.tmp 66)] [_, _] Try.underlying22 size5 zero5 rfl rfl (by decide) hx.size (PartsOk.cons (show ByteIs 69 _ _ from rfl) (PartsOk.cons (q0 ?b16_2 A W 66 hf) (PartsOk.nil)))
    refine oc0 (fun A W hx hf => ?_) ?_
    exact ok_assign (q0 ?b16_3 A W 67 hf)
    exact OpsOk.nil
   case t16 => exact inferInstance
   clear hr; intro a17 w17 x hr hd hs
   have z_w_w12 := e_w.size
   have l17_1 := PxS.lt s1
   revert s1 s4; refine kp2 hs rfl ?_; intro s1 s4
   have s5 := fa ?b16_3 a17 w17 5 (hd 4 5 rfl)
   obtain ⟨g17_5, q17_5⟩ := OwnB.at s5; clear s5; have n17_5 := OwnBA.lt q17_5
   replace q17_5 := OwnBA.mono q17_5 e_w.size
   have s5 := q17_5; clear q17_5
   replace e_w := e_w.trans x
   have e_w12 := x
   clear hd hs x
   refine exit_then ?_
   refine wp_seq ?_
   refine wp_seq ?_
   refine wp_reg 109 [[(1, none)], [(68, some 0)], [(1, none)], [(70, some 2)], [(4, none)], [(1, none)], [(73, some 5)], [(74, some 6)], [(1, none)], [(76, some 8)], [(75, some 7), (77, some 9)], [(69, some 1), (71, some 3), (72, some 4), (78, some 10)], [(79, some 11)], []] [?b18_0, ?b18_1, ?b18_2, ?b18_3, ?b18_4, ?b18_5, ?b18_6, ?b18_7, ?b18_8, ?b18_9, ?b18_10, ?b18_11, ?b18_12, ?b18_13] mixed (by kernel_rfl) (by kernel_rfl) hr ?t18 ?o18 ?_
   case o18 =>
    refine oc0 (fun A W hx hf => ?_) ?_
    exact ok_fieldS 1 Try.underlying28 (k := 1) rfl size3 rfl (o2 s1 e_w12 hx (r0 hf)) rfl
    refine oc0 (fun A W hx hf => ?_) ?_
    exact ok_loadS Try.underlying3 rfl (q0 ?b18_0 A W 68 hf) rfl
    refine oc0 (fun A W hx hf => ?_) ?_
    exact ok_fieldS 3 Try.underlying28 (k := 3) rfl size3 rfl (o2 s1 e_w12 hx (r0 hf)) rfl
    refine oc0 (fun A W hx hf => ?_) ?_
    exact ok_loadS Try.underlying3 rfl (q0 ?b18_2 A W 70 hf) rfl
    refine oc0 (fun A W hx hf => ?_) ?_
    exact ok_movE (a0 := a17) (r0 hf)
    refine oc0 (fun A W hx hf => ?_) ?_
    exact ok_fieldS 6 Try.underlying28 (k := 6) rfl size3 rfl (o2 s1 e_w12 hx (r0 hf)) rfl
    refine oc0 (fun A W hx hf => ?_) ?_
    exact ok_loadS Try.underlying3 rfl (q0 ?b18_5 A W 73 hf) rfl
    refine oc0 (fun A W hx hf => ?_) ?_
    exact ok_shl 8 (by decide) (q0 ?b18_6 A W 74 hf) (ec A (.int .u64 8))
    refine oc0 (fun A W hx hf => ?_) ?_
    exact ok_fieldS 7 Try.underlying28 (k := 7) rfl size3 rfl (o2 s1 e_w12 hx (r0 hf)) rfl
    refine oc0 (fun A W hx hf => ?_) ?_
    exact ok_loadS Try.underlying3 rfl (q0 ?b18_8 A W 76 hf) rfl
    refine oc0 (fun A W hx hf => ?_) ?_
    exact ok_orb (q0 ?b18_7 A W 75 hf) (q1 ?b18_9 A W 77 hf)
    refine oc0 (fun A W hx hf => ?_) ?_
    exact ok_ownNs [(.tmp 69), (.tmp 71), (.tmp 72), (.tmp 78), (.const (.int .i64 0))] [_, _, _, _, _] Try.underlying53 size3 zero3 rfl rfl (by decide) hx.size (PartsOk.cons (q0 ?b18_1 A W 69 hf) (PartsOk.cons (q1 ?b18_3 A W 71 hf) (PartsOk.cons (p2 s4 e_w12 hx (q2 ?b18_4 A W 72 hf)) (PartsOk.cons (q3 ?b18_10 A W 78 hf) (PartsOk.cons (show Is (.int .i64 0) _ _ from rfl) (PartsOk.nil))))))
    refine oc0 (fun A W hx hf => ?_) ?_
    exact ok_len_ns Try.underlying53 (OwnN.ns (q0 ?b18_11 A W 79 hf))
    refine oc0 (fun A W hx hf => ?_) ?_
    exact ok_movec
    exact OpsOk.nil
   case t18 => exact inferInstance
   clear hr; intro a19 w19 x hr hd hs
   have z_w_w17 := e_w.size
   have z_w12_w17 := e_w12.size
   have l19_1 := PxS.lt (later e_w12 s1)
   have l19_5 := OwnBA.lt s5
   revert s1 s5; refine kp2 hs rfl ?_; intro s1 s5
   clear s4
   have s79 := fa ?b18_11 a19 w19 79 (hd 11 79 rfl)
   have s80 := fa ?b18_12 a19 w19 80 (hd 12 80 rfl)
   have s81 := fa ?b18_13 a19 w19 81 (hd 13 81 rfl)
   obtain ⟨g19_79, q19_79⟩ := OwnN.at s79; clear s79; have n19_79 := OwnNA.lt q19_79
   replace q19_79 := OwnNA.mono q19_79 e_w.size
   have s79 := q19_79; clear q19_79
   replace e_w := e_w.trans x
   replace e_w12 := e_w12.trans x
   have e_w17 := x
   clear hd hs x
   replace s79 := OwnNA.cast s79 (show _ = L5 H from by unfold L5; rw [or8 k4 k5])
   replace s80 := Is.int s80 (show _ = (5 : Int) from rfl)
   refine exit_then ?_
   refine wp_block ?_
   refine wp_loop_inv (fun n A W => ∃ (i β : Nat), n = 5 - i ∧ Fr 109 A ∧ Same D_c_four_Put_1 a19 A ∧ Ext w W ∧ (i ≤ 5) ∧ (g2_1 ≠ β) ∧ (g19_79 = 0 ∨ g19_79 ≠ β) ∧ (PxS g2_1 w.heap.size [1, 1, 1, 1, 1, 1, 1, 1, 1, 16, 1, 16] (fourS2 H) 0) (A.eval (.tmp 1)) W ∧ (OwnNA g19_79 w.heap.size 3 .i64 (L5 H)) (A.eval (.tmp 79)) W ∧ (OwnBA β w.heap.size 5 (bL5 H i)) (A.eval (.tmp 5)) W ∧ (Is (.int .i64 (i : Int))) (A.eval (.tmp 81)) W) ?start20 ?_
   case start20 =>
    refine ⟨_, 0, g17_5, rfl, hr, Same.rfl, e_w, (by first | assumption | omega), (by first | assumption | omega), (by first | assumption | omega), ?_, ?_, ?_, ?_⟩
    · first | exact (later e_w12 s1) | exact Is.int (later e_w12 s1) (by first | omega | simp) | exact Is.bool (later e_w12 s1) (by first | omega | simp)
    · first | exact s79 | exact Is.int s79 (by first | omega | simp) | exact Is.bool s79 (by first | omega | simp)
    · exact (later e_w17 s5)
    · exact s81
   intro n20 a20 w20 hI
   clear e_w
   clear e_w12
   clear e_w17
   clear hr; obtain ⟨i, β, hn20, hr, hs, e_w, hi, ne1, ne2, u1, u79, u5, u81⟩ := hI
   revert s80; refine kp1 hs rfl ?_; intro s80
   clear s1 s5 s81 s79
   have s1 := u1; clear u1
   have s79 := u79; clear u79
   have s5 := u5; clear u5
   have s81 := u81; clear u81
   replace s80 := anyw (w2 := w20) s80
   have m20 := hs; clear hs
   refine wp_seq ?_
   refine wp_reg 109 [[(81, none), (80, none)]] [?b21_0] mixed (by kernel_rfl) (by kernel_rfl) hr ?t21 ?o21 ?_
   case o21 =>
    refine oc0 (fun A W hx hf => ?_) ?_
    exact ok_lss (o1 s81 hx (r0 hf)) (o1 s80 hx (r1 hf))
    exact OpsOk.nil
   case t21 => exact inferInstance
   clear hr; intro a22 w22 x hr hd hs
   revert s1 s79 s5 s81 s80; refine kp5 hs rfl ?_; intro s1 s79 s5 s81 s80
   have s82 := fa ?b21_0 a22 w22 82 (hd 0 82 rfl)
   replace e_w := e_w.trans x
   have e_w20 := x
   replace m20 := m20.tr hs rfl
   clear hd hs x
   refine exit_then ?_
   refine wp_seq ?_
   refine wp_cond_split (show _ = _ from s82) (fun hlt => ?_) (fun hlt => ?_)
   · skip
     have hlt : i < 5 := by simp at hlt; omega
     have hl5 : i < (L5 H).length := hlt
     have hv5 := L5_bd hr9 hl5
     refine wp_skip ?_
     refine exit_then ?_
     refine wp_seq ?_
     refine wp_block ?_
     refine wp_seq ?_
     refine wp_reg 109 [[(79, none), (81, none)], [(83, some 0)], [(84, some 1)]] [?b24_0, ?b24_1, ?b24_1] mixed (by kernel_rfl) (by kernel_rfl) hr ?t24 ?o24 ?_
     case o24 =>
      refine oc0 (fun A W hx hf => ?_) ?_
      exact ok_index_ns (_) Try.underlying53 size3 (OwnNA.ns (o2 s79 e_w20 hx (r0 hf))) (o2 s81 e_w20 hx (r1 hf)) (by exact hl5)
      refine oc0 (fun A W hx hf => ?_) ?_
      exact ok_loadp Try.underlying3 rfl (q0 ?b24_0 A W 83 hf)
      refine oc0 (fun A W hx hf => ?_) ?_
      exact ok_assign (q0 ?b24_1 A W 84 hf)
      exact OpsOk.nil
     case t24 => exact inferInstance
     clear hr; intro a25 w25 x hr hd hs
     revert s1 s79 s5 s81 s80; refine kp5 hs rfl ?_; intro s1 s79 s5 s81 s80
     clear s82
     have s7 := fa ?b24_1 a25 w25 7 (hd 2 7 rfl)
     replace e_w := e_w.trans x
     replace e_w20 := e_w20.trans x
     replace m20 := m20.tr hs rfl
     clear hd hs x
     refine exit_then ?_
     refine wp_reg_pre (l := [_, _, _, _]) (rest := [_, _]) 109 [[(5, none)], [(7, none)], [(86, some 1)], [(87, some 2)]] [?b26_0, ?b26_1, ?b26_2, ?b26_3] (by kernel_rfl) (by kernel_rfl) hr ?t26 ?o26 ?_
     case o26 =>
      refine oc0 (fun A W hx hf => ?_) ?_
      exact ok_movE (a0 := a25) (r0 hf)
      refine oc0 (fun A W hx hf => ?_) ?_
      exact ok_movE (a0 := a25) (r0 hf)
      refine oc0 (fun A W hx hf => ?_) ?_
      exact ok_convI Try.underlying3 Try.underlying55 (by exact IntWalk.u64_in _ (by omega)) (p1 s7 hx (q0 ?b26_1 A W 86 hf))
      refine oc0 (fun A W hx hf => ?_) ?_
      exact ok_call3 body24 (c_Put (q0 ?b26_2 A W 87 hf) (show Is (.int .i64 2) (A.eval (.const (.int .i64 2))) _ from rfl) (show Is (.bool true) (A.eval (.const (.bool true))) _ from rfl) (by omega) hx.size)
      exact OpsOk.nil
     case t26 => exact inferInstance
     clear hr; intro a27 w27 x hr hd hs
     have z_w_w25 := e_w.size
     have z_w20_w25 := e_w20.size
     have l27_1 := PxS.lt (later e_w20 s1)
     have l27_79 := OwnNA.lt (later e_w20 s79)
     have l27_5 := OwnBA.lt (later e_w20 s5)
     have u85 := mv s5 (fa ?b26_0 a27 w27 85 (hd 0 85 rfl))
     revert s1 s79 s5 s81 s80; refine kp5 hs rfl ?_; intro s1 s79 s5 s81 s80
     clear s7
     have s85 := u85; clear u85
     have s88 := fa ?b26_3 a27 w27 88 (hd 3 88 rfl)
     obtain ⟨g27_88, q27_88⟩ := OwnB.at s88; clear s88; have n27_88 := OwnBA.lt q27_88
     replace q27_88 := OwnBA.mono q27_88 e_w.size
     have s88 := q27_88; clear q27_88
     replace e_w := e_w.trans x
     replace e_w20 := e_w20.trans x
     replace m20 := m20.tr hs rfl
     clear hd hs x
     have l28 := OwnBA.lt (later e_w20 s85)
     have l28_1 := PxS.lt (later e_w20 s1)
     have l28_79 := OwnNA.lt (later e_w20 s79)
     refine wl_append_bsA hr (by decide) Try.underlying22 info5 rfl (later e_w20 s85) (OwnBA.bs s88) e_w.size (by first | (rw [bL5_len (by omega)]; simp only [put2_len]; omega) | (simp only [List.length_append, bL5_len (Nat.le_refl _), List.length_take]; omega)) ?_; clear hr; intro g28 a28 w28 hg28 hc hr hd hs
     have hb := hc.below e_w.size l28.1
     revert s1 s79 s81 s80; refine kp4 hs rfl ?_; intro s1 s79 s81 s80
     clear s5 s85 s88
     replace s1 := PxS.other (later e_w20 s1) hc (by omega)
     replace s79 := OwnNA.other (later e_w20 s79) hc (by omega)
     have s89 := hd
     replace e_w := e_w.below (Nat.le_refl _) hb
     clear e_w20
     replace s81 := anyw (w2 := w28) s81
     replace s80 := anyw (w2 := w28) s80
     replace m20 := m20.tr hs rfl
     clear hd hs hb hc
     refine wl_op hr (ok_assign s89) inferInstance ?_; clear hr; intro a29 w29 x hr hd hs
     revert s1 s79 s81 s80; refine kp4 hs rfl ?_; intro s1 s79 s81 s80
     clear s89
     have s5 := hd 5 rfl (by decide)
     replace e_w := e_w.trans x
     have e_w28 := x
     replace m20 := m20.tr hs rfl
     clear hd hs x
     refine wpList_nil ?_
     refine blk_normal ?_
     refine exit_then ?_
     refine wp_reg 109 [[(81, none)], [(90, some 0)]] [?b30_0, ?b30_0] mixed (by kernel_rfl) (by kernel_rfl) hr ?t30 ?o30 ?_
     case o30 =>
      refine oc0 (fun A W hx hf => ?_) ?_
      exact ok_addI (o2 s81 e_w28 hx (r0 hf)) (ec A (.int .i64 1)) (by omega)
      refine oc0 (fun A W hx hf => ?_) ?_
      exact ok_move (q0 ?b30_0 A W 90 hf)
      exact OpsOk.nil
     case t30 => exact inferInstance
     clear hr; intro a31 w31 x hr hd hs
     revert s1 s79 s80 s5; refine kp4 hs rfl ?_; intro s1 s79 s80 s5
     clear s81
     have s81 := fa ?b30_0 a31 w31 81 (hd 1 81 rfl)
     replace e_w := e_w.trans x
     replace e_w28 := e_w28.trans x
     have e_w29 := x
     replace m20 := m20.tr hs rfl
     clear hd hs x
     refine exit_then ?_
     refine ⟨(fun (i β : Nat) => 5 - i) (i + 1) (0), ?_, ?_⟩
     · (try dsimp only); omega
     refine ⟨i + 1, g28, rfl, hr, m20, e_w, (by first | assumption | omega), (by first | assumption | omega), (by first | assumption | omega), ?_, ?_, ?_, ?_⟩
     · first | exact (later e_w28 s1) | exact Is.int (later e_w28 s1) (by first | omega | simp) | exact Is.bool (later e_w28 s1) (by first | omega | simp)
     · first | exact (later e_w28 s79) | exact Is.int (later e_w28 s79) (by first | omega | simp) | exact Is.bool (later e_w28 s79) (by first | omega | simp)
     · exact OwnBA.cast (later e_w29 s5) (bL5_step hl5)
     · exact s81
   · skip
     have hlt : i = 5 := by simp at hlt; omega
     subst hlt
     refine wp_exit ?_
     refine then_exit ?_
     refine then_exit ?_
     refine blk_exit ?_
     refine exit_then ?_
     refine wp_seq ?_
     refine wp_any_start mixed (fun w32 x => ?_)
     show wpAny _ _ _ _ 10 _ _ _
     replace e_w := e_w.trans x
     replace e_w20 := e_w20.trans x
     have e_w22 := x
     clear x
     refine any_op (i := 5) hr rfl (by decide) (by kernel_rfl) (fun _ _ _ _ h => h) (py_of (ok_fieldS 10 Try.underlying28 (k := 9) rfl size26 rfl (later e_w20 s1) rfl) (pv_field Try.underlying28 (k := 9) rfl size26 rfl (PxS.cells (later e_w20 s1)))) ?_; clear hr; intro a33 hr hd hs
     revert s1 s5; refine kp2 hs rfl ?_; intro s1 s5
     clear s79 s81 s80 s82
     have s96 := hd
     clear hd hs
     refine any_op (i := 6) hr rfl (by decide) (by kernel_rfl) (fun _ _ _ _ h => h) (py_of (ok_fieldS 11 Try.underlying26 (k := 1) rfl size24 rfl s96 rfl) (pv_field Try.underlying26 (k := 1) rfl size24 rfl (PxS.cells s96))) ?_; clear hr; intro a34 hr hd hs
     revert s1 s5 s96; refine kp3 hs rfl ?_; intro s1 s5 s96
     have s97 := hd
     clear hd hs
     refine any_op (i := 7) hr rfl (by decide) (by kernel_rfl) (fun _ _ _ _ h => h) (py_of (ok_sliceSh (4) Try.underlying24 size5 s97 rfl (ec a34 (.int .i64 4)) (by first | omega | decide | (simp; done) | (simp; omega))) (pv_arr_hi (hi := 4) Try.underlying24 size5 (PxS.cells s97) (ec a34 (.int .i64 4)) (by first | omega | decide))) ?_; clear hr; intro a35 hr hd hs
     revert s1 s5 s96 s97; refine kp4 hs rfl ?_; intro s1 s5 s96 s97
     have s98 := hd
     clear hd hs
     refine wp_sel (l := [_, _, _, _, _, _, _, _, _, _]) 109 _ [false, false, false, false, true, true, true, true, true, true] [4, 8, 9] [[(5, none)], [(1, none)], [(92, some 1)], [(93, some 2)], [], [], [], [], [], []] [?b36_0, ?b36_1, ?b36_2, ?b36_3, VP.top, VP.top, VP.top, VP.top, VP.top, VP.top] (by kernel_rfl) rfl (by kernel_rfl) hr ?t36 ?o36 ?_
     case o36 =>
      refine lc0 (fun A W hx hf => ?_) ?_
      exact ok_movE (a0 := a35) (r0 hf)
      refine lc0 (fun A W hx hf => ?_) ?_
      exact ok_fieldS 8 Try.underlying28 (k := 8) rfl size26 rfl (o2 s1 e_w20 hx (r0 hf)) rfl
      refine lc0 (fun A W hx hf => ?_) ?_
      exact ok_fieldS 9 Try.underlying26 (k := 1) rfl size24 rfl (q0 ?b36_1 A W 92 hf) rfl
      refine lc0 (fun A W hx hf => ?_) ?_
      exact ok_sliceSh (4) Try.underlying24 size5 (q0 ?b36_2 A W 93 hf) rfl (ec A (.int .i64 4)) (by first | omega | decide | (simp; done) | (simp; omega))
      refine lcs ?_
      refine lcs ?_
      refine lcs ?_
      refine lcs ?_
      refine lcs ?_
      refine lcs ?_
      exact lcn
     case t36 => exact inferInstance
     clear hr; intro a37 w37 x hr hd hs
     have u91 := mv s5 (fa ?b36_0 a37 w37 91 (hd 0 91 rfl rfl))
     revert s1 s5 s96 s97 s98; refine kp5 hs rfl ?_; intro s1 s5 s96 s97 s98
     have s91 := u91; clear u91
     have s92 := fa ?b36_1 a37 w37 92 (hd 1 92 rfl rfl)
     have s93 := fa ?b36_2 a37 w37 93 (hd 2 93 rfl rfl)
     have s94 := fa ?b36_3 a37 w37 94 (hd 3 94 rfl rfl)
     replace e_w := e_w.trans x
     replace e_w20 := e_w20.trans x
     clear e_w22
     have e_w32 := x
     clear hd hs x
     show wpList _ _ _ [_, _, _] _ _
     have l38 := OwnBA.lt (later e_w20 s91)
     have l38_98 := SxS.lt (later e_w32 s98)
     refine wl_append_bsA hr (by decide) Try.underlying22 info5 rfl (later e_w20 s91) (SxS.hi s94 rfl (by decide)) e_w.size (by first | (rw [bL5_len (by omega)]; simp only [put2_len]; omega) | (simp only [List.length_append, bL5_len (Nat.le_refl _), List.length_take]; omega)) ?_; clear hr; intro g38 a38 w38 hg38 hc hr hd hs
     have hb := hc.below e_w.size l38.1
     revert s98; refine kp1 hs rfl ?_; intro s98
     clear s1 s5 s96 s97 s91 s92 s93 s94
     replace s98 := SxS.other (later e_w32 s98) hc (by omega)
     have s95 := hd
     replace e_w := e_w.below (Nat.le_refl _) hb
     clear e_w20
     clear e_w32
     clear hd hs hb hc
     have l39 := OwnBA.lt s95
     refine wl_append_bsA hr (by decide) Try.underlying22 info5 rfl s95 (SxS.hi s98 rfl (by decide)) e_w.size (by first | (rw [bL5_len (by omega)]; simp only [put2_len]; omega) | (simp only [List.length_append, bL5_len (Nat.le_refl _), List.length_take]; omega)) ?_; clear hr; intro g39 a39 w39 hg39 hc hr hd hs
     have hb := hc.below e_w.size l39.1
     clear s98 s95
     have s99 := hd
     replace e_w := e_w.below (Nat.le_refl _) hb
     clear hd hs hb hc
     refine wl_op hr (ok_assign s99) inferInstance ?_; clear hr; intro a40 w40 x hr hd hs
     clear s99
     have s5 := hd 5 rfl (by decide)
     replace e_w := e_w.trans x
     clear hd hs x
     refine wpList_nil ?_
     replace s5 := OwnBA.cast s5 (fourB_eq hr9)
     refine exit_then ?_
     refine wp_seq ?_
     have hcb := ck_bd (fourB H)
     refine wp_any_start mixed (fun w41 x => ?_)
     show wpAny _ _ _ _ 8 _ _ _
     replace e_w := e_w.trans x
     have e_w40 := x
     clear x
     refine wp_sel (l := [_, _, _, _, _, _, _, _]) 109 _ [false, false, false, false, false, false, false, true] [7] [[(5, none)], [(100, some 0)], [(5, none)], [(102, some 2)], [(103, some 3)], [(104, some 4)], [(105, some 5)], []] [?b42_0, ?b42_1, ?b42_2, ?b42_3, ?b42_4, ?b42_5, ?b42_6, VP.top] (by kernel_rfl) rfl (by kernel_rfl) hr ?t42 ?o42 ?_
     case o42 =>
      refine lc0 (fun A W hx hf => ?_) ?_
      exact ok_movE (a0 := a40) (r0 hf)
      refine lc0 (fun A W hx hf => ?_) ?_
      exact ok_subA (10) Try.underlying22 size5 (p2 s5 e_w40 hx (q0 ?b42_0 A W 100 hf)) (ec A (.int .i64 10)) (by rw [fourB_len hH]; omega)
      refine lc0 (fun A W hx hf => ?_) ?_
      exact ok_movE (a0 := a40) (r0 hf)
      refine lc0 (fun A W hx hf => ?_) ?_
      exact ok_buildBss [(.tmp 102)] [_] Try.underlying60 size22 zero22 rfl rfl (by decide) (PartsOk.cons (OwnBA.bs (p2 s5 e_w40 hx (q0 ?b42_2 A W 102 hf))) (PartsOk.nil))
      refine lc0 (fun A W hx hf => ?_) ?_
      exact ok_call1 body25 (c_Sum (q0 ?b42_3 A W 103 hf))
      refine lc0 (fun A W hx hf => ?_) ?_
      exact ok_convI Try.underlying40 Try.underlying55 (by simp only [List.flatten_cons, List.flatten_nil, List.append_nil]; exact IntWalk.u64_in _ (by omega)) (q0 ?b42_4 A W 104 hf)
      refine lc0 (fun A W hx hf => ?_) ?_
      exact ok_call3 body24 (c_Put (q0 ?b42_5 A W 105 hf) (show Is (.int .i64 2) (A.eval (.const (.int .i64 2))) _ from rfl) (show Is (.bool true) (A.eval (.const (.bool true))) _ from rfl) (by simp only [List.flatten_cons, List.flatten_nil, List.append_nil]; omega) hx.size)
      refine lcs ?_
      exact lcn
     case t42 => exact inferInstance
     clear hr; intro a43 w43 x hr hd hs
     have z_w_w41 := e_w.size
     have z_w40_w41 := e_w40.size
     have l43_5 := OwnBA.lt (later e_w40 s5)
     have u100 := mv s5 (fa ?b42_0 a43 w43 100 (hd 0 100 rfl rfl))
     have u102 := mv s5 (fa ?b42_2 a43 w43 102 (hd 2 102 rfl rfl))
     revert s5; refine kp1 hs rfl ?_; intro s5
     have s100 := u100; clear u100
     have s102 := u102; clear u102
     have s101 := fa ?b42_1 a43 w43 101 (hd 1 101 rfl rfl)
     have s103 := fa ?b42_3 a43 w43 103 (hd 3 103 rfl rfl)
     have s104 := fa ?b42_4 a43 w43 104 (hd 4 104 rfl rfl)
     have s105 := fa ?b42_5 a43 w43 105 (hd 5 105 rfl rfl)
     have s106 := fa ?b42_6 a43 w43 106 (hd 6 106 rfl rfl)
     obtain ⟨g43_106, q43_106⟩ := OwnB.at s106; clear s106; have n43_106 := OwnBA.lt q43_106
     replace q43_106 := OwnBA.mono q43_106 e_w.size
     have s106 := q43_106; clear q43_106
     replace e_w := e_w.trans x
     replace e_w40 := e_w40.trans x
     clear hd hs x
     show wpList _ _ _ [_] _ _
     have z44 := SubA.lt s101
     have l44 := (show (g39 = 0 ∨ w.heap.size < g39) ∧ True from ⟨by omega, trivial⟩)
     refine wl_copyA hr Try.underlying22 size5 s101 (OwnBA.bs s106) ?_; clear hr; intro a44 w44 hc hu hr hs
     have hb : Below w.heap.size w43 w44 := hc.below e_w.size l44.1
     revert s5; refine kp1 hs rfl ?_; intro s5
     clear s100 s102 s101 s103 s104 s105 s106
     replace s5 := hu _ _ _ (later e_w40 s5)
     replace e_w := e_w.below (Nat.le_refl _) hb
     clear e_w40
     clear hu hs hc hb
     refine wpList_nil ?_
     replace s5 := OwnBA.cast s5 (show _ = fourPut H from by unfold fourPut; rw [fourB_len hH]; simp)
     refine exit_then ?_
     refine wp_seq ?_
     refine wp_reg 109 [[(5, none)], [(108, some 0)], []] [?b45_0, ?b45_0, ?b45_2] mixed (by kernel_rfl) (by kernel_rfl) hr ?t45 ?o45 ?_
     case o45 =>
      refine oc0 (fun A W hx hf => ?_) ?_
      exact ok_movE (a0 := a44) (r0 hf)
      refine oc0 (fun A W hx hf => ?_) ?_
      exact ok_assign (q0 ?b45_0 A W 108 hf)
      refine oc0 (fun A W hx hf => ?_) ?_
      exact ok_assignc
      exact OpsOk.nil
     case t45 => exact inferInstance
     clear hr; intro a46 w46 x hr hd hs
     have u2 := mv s5 (fa ?b45_0 a46 w46 2 (hd 1 2 rfl))
     clear s5
     have s2 := u2; clear u2
     have s3 := fa ?b45_2 a46 w46 3 (hd 2 3 rfl)
     replace e_w := e_w.trans x
     have e_w44 := x
     clear hd hs x
     refine exit_then ?_
     refine wp_ret ?_
     refine ret_tmp2 Try.results12 hr e_w ?_
     first | exact ⟨_, _, rfl, OwnB.cast (OwnB.mono (later e_w44 s2).own hB) (by unfold fourPutR; rw [if_neg (by rw [hr9]; decide)]), Is.int s3 (by unfold fourPutR; rw [if_neg (by rw [hr9]; decide)])⟩ | exact ⟨_, _, rfl, OwnB.cast (OwnB.mono (later e_w44 s2).own hB) (by unfold fourPutR; rw [if_pos hr9]), Is.int s3 (by unfold fourPutR; rw [if_pos hr9])⟩

end Go.Proofs.Ytehhjmcdpcilfaa
