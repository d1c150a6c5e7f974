import Derived.Test.YtdbjpfjnambenaaC01
import Derived.Test.YtdbjpfjnambenaaC06b
import Derived.Test.YtdbjpfjnambenaaS07
namespace Go.Proofs.Ytdbjpfjnambenaa
open Go.RowKit
set_option linter.unusedVariables false
set_option maxRecDepth 4000
theorem c_ltag {x0 : Value} {w : World} {n : Int} (h0 : (Is (.int .i64 n)) x0 w)  :
    Calls Try.prog 19 #[x0] w (Ret (Is (.bool (tagB n))) w) := by
 refine enter Try.func19 rfl Try.ntmps19 (k := 1) rfl (by decide) (fun a0 hr hargs => ?_)
 have s0 := sarg h0 (hargs 0 (by decide))
 clear hargs
 refine wp_seq ?_
 refine wp_reg 9 [[]] [?b1_0] mixed (by kernel_rfl) (by kernel_rfl) hr ?t1 ?o1 ?_
 case o1 =>
  refine oc0 (fun A W hx hf => ?_) ?_
  exact ok_assignc
  exact OpsOk.nil
 case t1 => exact inferInstance
 clear hr; intro a2 w2 x hr hd hs
 revert s0; refine kp1 hs rfl ?_; intro s0
 have e_w := x
 clear hd hs x
 refine exit_then ?_
 refine wp_seq ?_
 refine wp_reg 9 [[(0, none)], [(3, some 0)], [(4, some 1)], [(0, none), (5, some 2)], [(6, some 3), (5, some 2)], [(5, some 2), (7, some 4)], [(8, some 5)]] [?b3_0, ?b3_1, ?b3_1, ?b3_3, ?b3_4, ?b3_5, ?b3_5] mixed (by kernel_rfl) (by kernel_rfl) hr ?t3 ?o3 ?_
 case o3 =>
  refine oc0 (fun A W hx hf => ?_) ?_
  exact ok_movE (a0 := a2) (r0 hf)
  refine oc0 (fun A W hx hf => ?_) ?_
  exact ok_eql (p2 s0 e_w hx (q0 ?b3_0 A W 3 hf)) (ec A (.int .i64 33024))
  refine oc0 (fun A W hx hf => ?_) ?_
  exact ok_move (q0 ?b3_1 A W 4 hf)
  refine ocg 5 ?_ (fun A W hx hf => ?_) ?_
  rfl
  exact gd_f (q1 ?b3_1 A W 5 hf) (fun hc => ok_movE (a0 := a2) (r0 hf))
  refine ocg 5 ?_ (fun A W hx hf => ?_) ?_
  rfl
  exact gd_f (q1 ?b3_1 A W 5 hf) (fun hc => ok_eql (p2 s0 e_w hx (G.get (q0 ?b3_3 A W 6 hf) hc)) (ec A (.int .i64 34984)))
  refine oc0 (fun A W hx hf => ?_) ?_
  exact ok_or (q0 ?b3_1 A W 5 hf) (q1 ?b3_4 A W 7 hf)
  refine oc0 (fun A W hx hf => ?_) ?_
  exact ok_assign (q0 ?b3_5 A W 8 hf)
  exact OpsOk.nil
 case t3 => exact inferInstance
 clear hr; intro a4 w4 x hr hd hs
 clear s0
 have s2 := fa ?b3_5 a4 w4 2 (hd 6 2 rfl)
 replace e_w := e_w.trans x
 clear hd hs x
 refine exit_then ?_
 refine wp_ret ?_
 refine ret_tmp Try.results19 hr e_w ?_
 exact Is.bool s2 rfl

theorem c_lin {x0 : Value} {w : World} {n : Int} (h0 : (Is (.int .i64 n)) x0 w)  :
    Calls Try.prog 22 #[x0] w (Ret (Is (.bool (inW n))) w) := by
 refine enter Try.func22 rfl Try.ntmps22 (k := 1) rfl (by decide) (fun a0 hr hargs => ?_)
 have s0 := sarg h0 (hargs 0 (by decide))
 clear hargs
 refine wp_seq ?_
 refine wp_reg 9 [[]] [?b1_0] mixed (by kernel_rfl) (by kernel_rfl) hr ?t1 ?o1 ?_
 case o1 =>
  refine oc0 (fun A W hx hf => ?_) ?_
  exact ok_assignc
  exact OpsOk.nil
 case t1 => exact inferInstance
 clear hr; intro a2 w2 x hr hd hs
 revert s0; refine kp1 hs rfl ?_; intro s0
 have e_w := x
 clear hd hs x
 refine exit_then ?_
 refine wp_seq ?_
 refine wp_reg 9 [[(0, none)], [(3, some 0)], [(4, some 1)], [(0, none), (5, some 2)], [(6, some 3), (5, some 2)], [(5, some 2), (7, some 4)], [(8, some 5)]] [?b3_0, ?b3_1, ?b3_1, ?b3_3, ?b3_4, ?b3_5, ?b3_5] mixed (by kernel_rfl) (by kernel_rfl) hr ?t3 ?o3 ?_
 case o3 =>
  refine oc0 (fun A W hx hf => ?_) ?_
  exact ok_movE (a0 := a2) (r0 hf)
  refine oc0 (fun A W hx hf => ?_) ?_
  exact ok_geq (p2 s0 e_w hx (q0 ?b3_0 A W 3 hf)) (ec A (.int .i64 0))
  refine oc0 (fun A W hx hf => ?_) ?_
  exact ok_move (q0 ?b3_1 A W 4 hf)
  refine ocg 5 ?_ (fun A W hx hf => ?_) ?_
  rfl
  exact gd_t (q1 ?b3_1 A W 5 hf) (fun hc => ok_movE (a0 := a2) (r0 hf))
  refine ocg 5 ?_ (fun A W hx hf => ?_) ?_
  rfl
  exact gd_t (q1 ?b3_1 A W 5 hf) (fun hc => ok_leq (p2 s0 e_w hx (G.get (q0 ?b3_3 A W 6 hf) hc)) (ec A (.int .i64 65535)))
  refine oc0 (fun A W hx hf => ?_) ?_
  exact ok_and (q0 ?b3_1 A W 5 hf) (q1 ?b3_4 A W 7 hf)
  refine oc0 (fun A W hx hf => ?_) ?_
  exact ok_assign (q0 ?b3_5 A W 8 hf)
  exact OpsOk.nil
 case t3 => exact inferInstance
 clear hr; intro a4 w4 x hr hd hs
 clear s0
 have s2 := fa ?b3_5 a4 w4 2 (hd 6 2 rfl)
 replace e_w := e_w.trans x
 clear hd hs x
 refine exit_then ?_
 refine wp_ret ?_
 refine ret_tmp Try.results22 hr e_w ?_
 exact Is.bool s2 rfl

theorem c_r7Tag {x0 : Value} {w : World} {n : Int} (h0 : (Is (.int .i64 n)) x0 w)  :
    Calls Try.prog 20 #[x0] w (Ret (Is (.bool (tagB n))) w) := by
 refine enter Try.func20 rfl Try.ntmps20 (k := 1) rfl (by decide) (fun a0 hr hargs => ?_)
 have s0 := sarg h0 (hargs 0 (by decide))
 clear hargs
 refine wp_seq ?_
 refine wp_reg 9 [[]] [?b1_0] mixed (by kernel_rfl) (by kernel_rfl) hr ?t1 ?o1 ?_
 case o1 =>
  refine oc0 (fun A W hx hf => ?_) ?_
  exact ok_assignc
  exact OpsOk.nil
 case t1 => exact inferInstance
 clear hr; intro a2 w2 x hr hd hs
 revert s0; refine kp1 hs rfl ?_; intro s0
 have e_w := x
 clear hd hs x
 refine exit_then ?_
 refine wp_seq ?_
 refine wp_reg 9 [[(0, none)], [(3, some 0)], [(4, some 1)], [(0, none), (5, some 2)], [(6, some 3), (5, some 2)], [(5, some 2), (7, some 4)], [(8, some 5)]] [?b3_0, ?b3_1, ?b3_1, ?b3_3, ?b3_4, ?b3_5, ?b3_5] mixed (by kernel_rfl) (by kernel_rfl) hr ?t3 ?o3 ?_
 case o3 =>
  refine oc0 (fun A W hx hf => ?_) ?_
  exact ok_movE (a0 := a2) (r0 hf)
  refine oc0 (fun A W hx hf => ?_) ?_
  exact ok_eql (p2 s0 e_w hx (q0 ?b3_0 A W 3 hf)) (ec A (.int .i64 33024))
  refine oc0 (fun A W hx hf => ?_) ?_
  exact ok_move (q0 ?b3_1 A W 4 hf)
  refine ocg 5 ?_ (fun A W hx hf => ?_) ?_
  rfl
  exact gd_f (q1 ?b3_1 A W 5 hf) (fun hc => ok_movE (a0 := a2) (r0 hf))
  refine ocg 5 ?_ (fun A W hx hf => ?_) ?_
  rfl
  exact gd_f (q1 ?b3_1 A W 5 hf) (fun hc => ok_eql (p2 s0 e_w hx (G.get (q0 ?b3_3 A W 6 hf) hc)) (ec A (.int .i64 34984)))
  refine oc0 (fun A W hx hf => ?_) ?_
  exact ok_or (q0 ?b3_1 A W 5 hf) (q1 ?b3_4 A W 7 hf)
  refine oc0 (fun A W hx hf => ?_) ?_
  exact ok_assign (q0 ?b3_5 A W 8 hf)
  exact OpsOk.nil
 case t3 => exact inferInstance
 clear hr; intro a4 w4 x hr hd hs
 clear s0
 have s2 := fa ?b3_5 a4 w4 2 (hd 6 2 rfl)
 replace e_w := e_w.trans x
 clear hd hs x
 refine exit_then ?_
 refine wp_ret ?_
 refine ret_tmp Try.results20 hr e_w ?_
 exact Is.bool s2 rfl

theorem c_lnum {x0 : Value} {w : World} {l : List UInt8} (h0 : (Bs l) x0 w) (h2 : 2 ≤ l.length) :
    Calls Try.prog 18 #[x0] w (Ret (Is (.int .i64 (wordAt l 0))) w) := by
 have hlen := Bs.len_le h0
 have hbe := be_two (l := l) (i := 0) (by omega)
 have hw := wordAt_bd l 0
 have h8 : (l.take 2).take 8 = subl l 0 (0 + 2) := by rw [List.take_of_length_le (by simp; omega)]; simp [subl]
 refine enter Try.func18 rfl Try.ntmps18 (k := 1) rfl (by decide) (fun a0 hr hargs => ?_)
 have s0 := sarg h0 (hargs 0 (by decide))
 clear hargs
 refine wp_seq ?_
 refine wp_reg 7 [[]] [?b1_0] mixed (by kernel_rfl) (by kernel_rfl) hr ?t1 ?o1 ?_
 case o1 =>
  refine oc0 (fun A W hx hf => ?_) ?_
  exact ok_assignc
  exact OpsOk.nil
 case t1 => exact inferInstance
 clear hr; intro a2 w2 x hr hd hs
 revert s0; refine kp1 hs rfl ?_; intro s0
 have e_w := x
 clear hd hs x
 refine exit_then ?_
 refine wp_seq ?_
 refine wp_reg 7 [[(0, none)], [(3, some 0)], [(4, some 1)], [(5, some 2)], [(6, some 3)]] [?b3_0, ?b3_1, ?b3_2, ?b3_3, ?b3_3] mixed (by kernel_rfl) (by kernel_rfl) hr ?t3 ?o3 ?_
 case o3 =>
  refine oc0 (fun A W hx hf => ?_) ?_
  exact ok_movE (a0 := a2) (r0 hf)
  refine oc0 (fun A W hx hf => ?_) ?_
  exact ok_slice_hi (2) Try.underlying22 size5 (p2 s0 e_w hx (q0 ?b3_0 A W 3 hf)) (ec A (.int .i64 2)) (by omega)
  refine oc0 (fun A W hx hf => ?_) ?_
  exact ok_call2 body26 (c_Get (q0 ?b3_1 A W 4 hf) (show Is (.bool true) (A.eval (.const (.bool true))) _ from rfl))
  refine oc0 (fun A W hx hf => ?_) ?_
  exact ok_convI Try.underlying51 Try.underlying3 (by rw [h8, hbe]; exact IntWalk.i64_in _ (by omega)) (q0 ?b3_2 A W 5 hf)
  refine oc0 (fun A W hx hf => ?_) ?_
  exact ok_assign (q0 ?b3_3 A W 6 hf)
  exact OpsOk.nil
 case t3 => exact inferInstance
 clear hr; intro a4 w4 x hr hd hs
 clear s0
 have s2 := fa ?b3_3 a4 w4 2 (hd 4 2 rfl)
 replace e_w := e_w.trans x
 clear hd hs x
 refine exit_then ?_
 refine wp_ret ?_
 refine ret_tmp Try.results18 hr e_w ?_
 exact Is.int s2 (by rw [h8, hbe])

theorem c_r7two {x0 x1 : Value} {w : World} {l : List UInt8} {z : Int} (h0 : (Bs l) x0 w) (h1 : (Is (.int .i64 z)) x1 w) (hz0 : 0 ≤ z) (hz1 : z.toNat + 2 ≤ l.length) :
    Calls Try.prog 21 #[x0, x1] w (Ret (Is (.int .i64 (wordAt l z.toNat))) w) := by
 have hlen := Bs.len_le h0
 obtain ⟨i, rfl⟩ : ∃ i : Nat, z = (i : Int) := ⟨z.toNat, by omega⟩
 simp only [Int.toNat_natCast] at hz1 ⊢
 have g0 : i < l.length := by omega
 have g1 : i + 1 < l.length := by omega
 have y0 := byte_bd l[i]
 have y1 := byte_bd l[i + 1]
 refine enter Try.func21 rfl Try.ntmps21 (k := 2) rfl (by decide) (fun a0 hr hargs => ?_)
 have s0 := sarg h0 (hargs 0 (by decide))
 have s1 := sarg h1 (hargs 1 (by decide))
 clear hargs
 refine wp_seq ?_
 refine wp_reg 18 [[]] [?b1_0] mixed (by kernel_rfl) (by kernel_rfl) hr ?t1 ?o1 ?_
 case o1 =>
  refine oc0 (fun A W hx hf => ?_) ?_
  exact ok_assignc
  exact OpsOk.nil
 case t1 => exact inferInstance
 clear hr; intro a2 w2 x hr hd hs
 revert s1; revert s0; refine kp2 hs rfl ?_; intro s0 s1
 have e_w := x
 clear hd hs x
 refine exit_then ?_
 refine wp_seq ?_
 refine wp_reg 18 [[(0, none)], [(1, none)], [(5, some 0), (6, some 1)], [(7, some 2)], [(8, some 3)], [(9, some 4)], [(0, none)], [(1, none)], [(12, some 7)], [(11, some 6), (13, some 8)], [(14, some 9)], [(15, some 10)], [(10, some 5), (16, some 11)], [(17, some 12)]] [?b3_0, ?b3_1, ?b3_2, ?b3_3, ?b3_4, ?b3_5, ?b3_6, ?b3_7, ?b3_8, ?b3_9, ?b3_10, ?b3_11, ?b3_12, ?b3_12] mixed (by kernel_rfl) (by kernel_rfl) hr ?t3 ?o3 ?_
 case o3 =>
  refine oc0 (fun A W hx hf => ?_) ?_
  exact ok_movE (a0 := a2) (r0 hf)
  refine oc0 (fun A W hx hf => ?_) ?_
  exact ok_movE (a0 := a2) (r0 hf)
  refine oc0 (fun A W hx hf => ?_) ?_
  exact ok_index_bs (_) Try.underlying22 size5 (p2 s0 e_w hx (q0 ?b3_0 A W 5 hf)) (p2 s1 e_w hx (q1 ?b3_1 A W 6 hf)) (by first | omega | decide | (simp; done) | (simp; omega))
  refine oc0 (fun A W hx hf => ?_) ?_
  exact ok_loadp Try.underlying5 rfl (q0 ?b3_2 A W 7 hf)
  refine oc0 (fun A W hx hf => ?_) ?_
  exact ok_convB Try.underlying5 Try.underlying3 (by decide) (q0 ?b3_3 A W 8 hf)
  refine oc0 (fun A W hx hf => ?_) ?_
  exact ok_mulI (ec A (.int .i64 256)) (q0 ?b3_4 A W 9 hf) (by omega)
  refine oc0 (fun A W hx hf => ?_) ?_
  exact ok_movE (a0 := a2) (r0 hf)
  refine oc0 (fun A W hx hf => ?_) ?_
  exact ok_movE (a0 := a2) (r0 hf)
  refine oc0 (fun A W hx hf => ?_) ?_
  exact ok_addI (p2 s1 e_w hx (q0 ?b3_7 A W 12 hf)) (ec A (.int .i64 1)) (by omega)
  refine oc0 (fun A W hx hf => ?_) ?_
  exact ok_index_bs (i + 1) Try.underlying22 size5 (p2 s0 e_w hx (q0 ?b3_6 A W 11 hf)) (Is.int (q1 ?b3_8 A W 13 hf) (by omega)) (by first | omega | decide | (simp; done) | (simp; omega))
  refine oc0 (fun A W hx hf => ?_) ?_
  exact ok_loadp Try.underlying5 rfl (q0 ?b3_9 A W 14 hf)
  refine oc0 (fun A W hx hf => ?_) ?_
  exact ok_convB Try.underlying5 Try.underlying3 (by decide) (q0 ?b3_10 A W 15 hf)
  refine oc0 (fun A W hx hf => ?_) ?_
  exact ok_addI (q0 ?b3_5 A W 10 hf) (q1 ?b3_11 A W 16 hf) (by omega)
  refine oc0 (fun A W hx hf => ?_) ?_
  exact ok_assign (q0 ?b3_12 A W 17 hf)
  exact OpsOk.nil
 case t3 => exact inferInstance
 clear hr; intro a4 w4 x hr hd hs
 clear s0 s1
 have s4 := fa ?b3_12 a4 w4 4 (hd 13 4 rfl)
 replace e_w := e_w.trans x
 clear hd hs x
 refine exit_then ?_
 refine wp_ret ?_
 refine ret_tmp Try.results21 hr e_w ?_
 exact Is.int s4 (by unfold wordAt; rw [byteAt_get g0, byteAt_get g1])

end Go.Proofs.Ytdbjpfjnambenaa
