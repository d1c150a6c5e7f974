import Derived.Test.YtehhjmcdpcilfaaC01
import Derived.Test.YtehhjmcdpcilfaaC06b
namespace Go.Proofs.Ytehhjmcdpcilfaa
open Go.RowKit
set_option linter.unusedVariables false
set_option maxRecDepth 4000
def D_c_IndexFunc_0 : List Tmp := [4, 5, 8, 9, 10, 11, 12, 13, 14, 15, 16, 17, 18]
theorem c_IndexFunc {x0 x1 : Value} {w : World} {l : List UInt8} {q : FuncId} {pr : UInt8 → Bool} (h0 : (Bs l) x0 w) (h1 : (Is (FnV q)) x1 w) (bd9 : Body Try.prog q) (cl9 : ∀ (c : UInt8) x w, ByteIs c x w → Calls Try.prog q #[x] w (Ret (Is (.bool (pr c))) w)) :
    Calls Try.prog 35 #[x0, x1] w (Ret (Is (.int .i64 (ixf pr l))) w) := by
 have hlen := Bs.len_le h0
 refine enter Try.func35 rfl Try.ntmps35 (k := 2) rfl (by decide) (fun a0 hr hargs => ?_)
 have s0 := sarg h0 (hargs 0 (by decide))
 have s1 := sarg h1 (hargs 1 (by decide))
 clear hargs
 refine wp_seq ?_
 refine wp_reg 19 [[]] [?b1_0] mixed (by kernel_rfl) (by kernel_rfl) hr ?t1 ?o1 ?_
 case o1 =>
  refine oc0 (fun A W hx hf => ?_) ?_
  exact ok_assignc
  exact OpsOk.nil
 case t1 => exact inferInstance
 clear hr; intro a2 w2 x hr hd hs
 revert s0 s1; refine kp2 hs rfl ?_; intro s0 s1
 have e_w := x
 clear hd hs x
 refine exit_then ?_
 refine wp_seq ?_
 refine wp_seq ?_
 refine wp_reg 19 [[(0, none)], [(6, some 0)], []] [?b3_0, ?b3_1, ?b3_2] mixed (by kernel_rfl) (by kernel_rfl) hr ?t3 ?o3 ?_
 case o3 =>
  refine oc0 (fun A W hx hf => ?_) ?_
  exact ok_movE (a0 := a2) (r0 hf)
  refine oc0 (fun A W hx hf => ?_) ?_
  exact ok_len_bs Try.underlying22 (p2 s0 e_w hx (q0 ?b3_0 A W 6 hf))
  refine oc0 (fun A W hx hf => ?_) ?_
  exact ok_movec
  exact OpsOk.nil
 case t3 => exact inferInstance
 clear hr; intro a4 w4 x hr hd hs
 revert s0 s1; refine kp2 hs rfl ?_; intro s0 s1
 have s7 := fa ?b3_1 a4 w4 7 (hd 1 7 rfl)
 have s8 := fa ?b3_2 a4 w4 8 (hd 2 8 rfl)
 replace e_w := e_w.trans x
 clear hd hs x
 refine exit_then ?_
 refine wp_block ?_
 refine wp_loop_inv (fun n A W => ∃ (i : Nat), n = l.length - i ∧ Fr 19 A ∧ Same D_c_IndexFunc_0 a4 A ∧ Ext w W ∧ Ext w4 W ∧ (i ≤ l.length) ∧ ((l.take i).any pr = false) ∧ (Is (.int .i64 (i : Int))) (A.eval (.tmp 8)) W) ?start5 ?_
 case start5 =>
  refine ⟨_, 0, rfl, hr, Same.rfl, e_w, (Ext.refl _), (by omega), (by simp), ?_⟩
  · exact s8
 intro n5 a5 w5 hI
 clear e_w
 clear hr; obtain ⟨i, hn5, hr, hs, e_w, e_w4, hi, hp, u8⟩ := hI
 revert s0 s1 s7; refine kp3 hs rfl ?_; intro s0 s1 s7
 clear s8
 have s8 := u8; clear u8
 have m5 := hs; clear hs
 refine wp_seq ?_
 refine wp_reg 19 [[(8, none), (7, none)]] [?b6_0] mixed (by kernel_rfl) (by kernel_rfl) hr ?t6 ?o6 ?_
 case o6 =>
  refine oc0 (fun A W hx hf => ?_) ?_
  exact ok_lss (o1 s8 hx (r0 hf)) (o2 s7 e_w4 hx (r1 hf))
  exact OpsOk.nil
 case t6 => exact inferInstance
 clear hr; intro a7 w7 x hr hd hs
 revert s0 s1 s7 s8; refine kp4 hs rfl ?_; intro s0 s1 s7 s8
 have s9 := fa ?b6_0 a7 w7 9 (hd 0 9 rfl)
 replace e_w := e_w.trans x
 replace e_w4 := e_w4.trans x
 have e_w5 := x
 replace m5 := m5.tr hs rfl
 clear hd hs x
 refine exit_then ?_
 refine wp_seq ?_
 refine wp_cond_split (show _ = _ from s9) (fun hlt => ?_) (fun hlt => ?_)
 · skip
   have hlt : i < l.length := by simp at hlt; omega
   refine wp_skip ?_
   refine exit_then ?_
   refine wp_seq ?_
   refine wp_block ?_
   refine wp_seq ?_
   refine wp_reg 19 [[(8, none)], [(10, some 0)]] [?b9_0, ?b9_0] mixed (by kernel_rfl) (by kernel_rfl) hr ?t9 ?o9 ?_
   case o9 =>
    refine oc0 (fun A W hx hf => ?_) ?_
    exact ok_movE (a0 := a7) (r0 hf)
    refine oc0 (fun A W hx hf => ?_) ?_
    exact ok_assign (q0 ?b9_0 A W 10 hf)
    exact OpsOk.nil
   case t9 => exact inferInstance
   clear hr; intro a10 w10 x hr hd hs
   have u5 := mv s8 (fa ?b9_0 a10 w10 5 (hd 1 5 rfl))
   revert s0 s1 s7 s8; refine kp4 hs rfl ?_; intro s0 s1 s7 s8
   clear s9
   have s5 := u5; clear u5
   replace e_w := e_w.trans x
   replace e_w4 := e_w4.trans x
   replace e_w5 := e_w5.trans x
   replace m5 := m5.tr hs rfl
   clear hd hs x
   refine exit_then ?_
   refine wp_seq ?_
   refine wp_reg 19 [[(1, none)], [(0, none)], [(5, none)], [(12, some 1), (13, some 2)], [(14, some 3)], [(11, some 0), (15, some 4)]] [?b11_0, ?b11_1, ?b11_2, ?b11_3, ?b11_4, ?b11_5] mixed (by kernel_rfl) (by kernel_rfl) hr ?t11 ?o11 ?_
   case o11 =>
    refine oc0 (fun A W hx hf => ?_) ?_
    exact ok_movE (a0 := a10) (r0 hf)
    refine oc0 (fun A W hx hf => ?_) ?_
    exact ok_movE (a0 := a10) (r0 hf)
    refine oc0 (fun A W hx hf => ?_) ?_
    exact ok_movE (a0 := a10) (r0 hf)
    refine oc0 (fun A W hx hf => ?_) ?_
    exact ok_index_bs (_) Try.underlying22 size5 (p2 s0 e_w hx (q0 ?b11_1 A W 12 hf)) (p2 s5 e_w5 hx (q1 ?b11_2 A W 13 hf)) (by first | omega | decide | (simp; done) | (simp; omega))
    refine oc0 (fun A W hx hf => ?_) ?_
    exact ok_loadp Try.underlying5 rfl (q0 ?b11_3 A W 14 hf)
    refine oc0 (fun A W hx hf => ?_) ?_
    exact ok_callf1 (p2 s1 e_w hx (q0 ?b11_0 A W 11 hf)) bd9 (cl9 _ _ _ (q1 ?b11_4 A W 15 hf))
    exact OpsOk.nil
   case t11 => exact inferInstance
   clear hr; intro a12 w12 x hr hd hs
   revert s0 s1 s7 s8 s5; refine kp5 hs rfl ?_; intro s0 s1 s7 s8 s5
   have s16 := fa ?b11_5 a12 w12 16 (hd 5 16 rfl)
   replace e_w := e_w.trans x
   replace e_w4 := e_w4.trans x
   replace e_w5 := e_w5.trans x
   replace m5 := m5.tr hs rfl
   clear hd hs x
   refine exit_then ?_
   refine wp_cond_split (show _ = _ from s16) (fun hm => ?_) (fun hm => ?_)
   · skip
     skip
     refine wp_seq ?_
     refine wp_reg 19 [[(5, none)], [(17, some 0)]] [?b14_0, ?b14_0] mixed (by kernel_rfl) (by kernel_rfl) hr ?t14 ?o14 ?_
     case o14 =>
      refine oc0 (fun A W hx hf => ?_) ?_
      exact ok_movE (a0 := a12) (r0 hf)
      refine oc0 (fun A W hx hf => ?_) ?_
      exact ok_assign (q0 ?b14_0 A W 17 hf)
      exact OpsOk.nil
     case t14 => exact inferInstance
     clear hr; intro a15 w15 x hr hd hs
     have u4 := mv s5 (fa ?b14_0 a15 w15 4 (hd 1 4 rfl))
     clear s0 s1 s7 s8 s5 s16
     have s4 := u4; clear u4
     replace e_w := e_w.trans x
     clear e_w4
     replace e_w5 := e_w5.trans x
     replace m5 := m5.tr hs rfl
     clear hd hs x
     refine exit_then ?_
     refine wp_ret ?_
     refine blk_ret ?_
     refine then_ret ?_
     refine then_ret ?_
     refine blk_ret ?_
     refine then_ret ?_
     refine ret_tmp Try.results35 hr e_w ?_
     first | exact Is.int (later e_w5 s4) (ixf_some hlt hp hm).symm | exact Is.int (later e_w5 s4) (ixf_none (by rw [← hp, List.take_length])).symm
   · skip
     skip
     refine wp_skip ?_
     refine blk_normal ?_
     refine exit_then ?_
     refine wp_reg 19 [[(8, none)], [(18, some 0)]] [?b16_0, ?b16_0] mixed (by kernel_rfl) (by kernel_rfl) hr ?t16 ?o16 ?_
     case o16 =>
      refine oc0 (fun A W hx hf => ?_) ?_
      exact ok_addI (o2 s8 e_w5 hx (r0 hf)) (ec A (.int .i64 1)) (by omega)
      refine oc0 (fun A W hx hf => ?_) ?_
      exact ok_move (q0 ?b16_0 A W 18 hf)
      exact OpsOk.nil
     case t16 => exact inferInstance
     clear hr; intro a17 w17 x hr hd hs
     revert s0 s1 s7; refine kp3 hs rfl ?_; intro s0 s1 s7
     clear s8 s5 s16
     have s8 := fa ?b16_0 a17 w17 8 (hd 1 8 rfl)
     replace e_w := e_w.trans x
     replace e_w4 := e_w4.trans x
     clear e_w5
     replace m5 := m5.tr hs rfl
     clear hd hs x
     refine exit_then ?_
     refine ⟨(fun (i : Nat) => l.length - i) (i + 1), ?_, ?_⟩
     · (try dsimp only); omega
     refine ⟨i + 1, rfl, hr, m5, e_w, e_w4, (by omega), (by exact any_take hlt hp hm), ?_⟩
     · exact s8
 · skip
   have hlt : i = l.length := by simp at hlt; omega
   subst hlt
   refine wp_exit ?_
   refine then_exit ?_
   refine then_exit ?_
   refine blk_exit ?_
   refine exit_then ?_
   refine wp_seq ?_
   refine wp_reg 19 [[]] [?b18_0] mixed (by kernel_rfl) (by kernel_rfl) hr ?t18 ?o18 ?_
   case o18 =>
    refine oc0 (fun A W hx hf => ?_) ?_
    exact ok_assignc
    exact OpsOk.nil
   case t18 => exact inferInstance
   clear hr; intro a19 w19 x hr hd hs
   clear s0 s1 s7 s8 s9
   have s4 := fa ?b18_0 a19 w19 4 (hd 0 4 rfl)
   replace e_w := e_w.trans x
   clear e_w4
   clear e_w5
   clear hd hs x
   refine exit_then ?_
   refine wp_ret ?_
   refine ret_tmp Try.results35 hr e_w ?_
   first | exact Is.int s4 (ixf_some hlt hp hm).symm | exact Is.int s4 (ixf_none (by rw [← hp, List.take_length])).symm

theorem c_ContainsFunc {x0 x1 : Value} {w : World} {l : List UInt8} {q : FuncId} {pr : UInt8 → Bool} (h0 : (Bs l) x0 w) (h1 : (Is (FnV q)) x1 w) (bd9 : Body Try.prog q) (cl9 : ∀ (c : UInt8) x w, ByteIs c x w → Calls Try.prog q #[x] w (Ret (Is (.bool (pr c))) w)) :
    Calls Try.prog 30 #[x0, x1] w (Ret (Is (.bool (l.any pr))) w) := by
 refine enter Try.func30 rfl Try.ntmps30 (k := 2) rfl (by decide) (fun a0 hr hargs => ?_)
 have s0 := sarg h0 (hargs 0 (by decide))
 have s1 := sarg h1 (hargs 1 (by decide))
 clear hargs
 refine wp_seq ?_
 refine wp_reg 9 [[]] [?b1_0] mixed (by kernel_rfl) (by kernel_rfl) hr ?t1 ?o1 ?_
 case o1 =>
  refine oc0 (fun A W hx hf => ?_) ?_
  exact ok_assignc
  exact OpsOk.nil
 case t1 => exact inferInstance
 clear hr; intro a2 w2 x hr hd hs
 revert s0 s1; refine kp2 hs rfl ?_; intro s0 s1
 have e_w := x
 clear hd hs x
 refine exit_then ?_
 refine wp_seq ?_
 refine wp_reg 9 [[(0, none)], [(1, none)], [(5, some 0), (6, some 1)], [(7, some 2)], [(8, some 3)]] [?b3_0, ?b3_1, ?b3_2, ?b3_3, ?b3_3] mixed (by kernel_rfl) (by kernel_rfl) hr ?t3 ?o3 ?_
 case o3 =>
  refine oc0 (fun A W hx hf => ?_) ?_
  exact ok_movE (a0 := a2) (r0 hf)
  refine oc0 (fun A W hx hf => ?_) ?_
  exact ok_movE (a0 := a2) (r0 hf)
  refine oc0 (fun A W hx hf => ?_) ?_
  exact ok_call2 body35 (c_IndexFunc (p2 s0 e_w hx (q0 ?b3_0 A W 5 hf)) (p2 s1 e_w hx (q1 ?b3_1 A W 6 hf)) (by assumption) (by assumption))
  refine oc0 (fun A W hx hf => ?_) ?_
  exact ok_geq (q0 ?b3_2 A W 7 hf) (ec A (.int .i64 0))
  refine oc0 (fun A W hx hf => ?_) ?_
  exact ok_assign (q0 ?b3_3 A W 8 hf)
  exact OpsOk.nil
 case t3 => exact inferInstance
 clear hr; intro a4 w4 x hr hd hs
 clear s0 s1
 have s4 := fa ?b3_3 a4 w4 4 (hd 4 4 rfl)
 replace e_w := e_w.trans x
 clear hd hs x
 refine exit_then ?_
 refine wp_ret ?_
 refine ret_tmp Try.results30 hr e_w ?_
 exact Is.bool s4 (ixf_ge _ _)

theorem c_short1 {x0 : Value} {w : World} {c : UInt8} (h0 : (ByteIs c) x0 w)  :
    Calls Try.prog 31 #[x0] w (Ret (Is (.bool (c != 0))) w) := by
 refine enter Try.func31 rfl Try.ntmps31 (k := 1) rfl (by decide) (fun a0 hr hargs => ?_)
 have s0 := sarg h0 (hargs 0 (by decide))
 clear hargs
 refine wp_seq ?_
 refine wp_reg 5 [[]] [?b1_0] mixed (by kernel_rfl) (by kernel_rfl) hr ?t1 ?o1 ?_
 case o1 =>
  refine oc0 (fun A W hx hf => ?_) ?_
  exact ok_assignc
  exact OpsOk.nil
 case t1 => exact inferInstance
 clear hr; intro a2 w2 x hr hd hs
 revert s0; refine kp1 hs rfl ?_; intro s0
 have e_w := x
 clear hd hs x
 refine exit_then ?_
 refine wp_seq ?_
 refine wp_reg 5 [[(0, none)], [(3, some 0)], [(4, some 1)]] [?b3_0, ?b3_1, ?b3_1] mixed (by kernel_rfl) (by kernel_rfl) hr ?t3 ?o3 ?_
 case o3 =>
  refine oc0 (fun A W hx hf => ?_) ?_
  exact ok_movE (a0 := a2) (r0 hf)
  refine oc0 (fun A W hx hf => ?_) ?_
  exact ok_neq (p2 s0 e_w hx (q0 ?b3_0 A W 3 hf)) (ec A (.int .u8 0))
  refine oc0 (fun A W hx hf => ?_) ?_
  exact ok_assign (q0 ?b3_1 A W 4 hf)
  exact OpsOk.nil
 case t3 => exact inferInstance
 clear hr; intro a4 w4 x hr hd hs
 clear s0
 have s2 := fa ?b3_1 a4 w4 2 (hd 2 2 rfl)
 replace e_w := e_w.trans x
 clear hd hs x
 refine exit_then ?_
 refine wp_ret ?_
 refine ret_tmp Try.results31 hr e_w ?_
 exact Is.bool s2 (nz_int c)

theorem c_two {x0 x1 : Value} {w : World} {l : List UInt8} {z : Int} (h0 : (Bs l) x0 w) (h1 : (Is (.int .i64 z)) x1 w) (hz0 : 0 ≤ z) (hz1 : z.toNat + 2 ≤ l.length) :
    Calls Try.prog 18 #[x0, x1] w (Ret (Is (.int .i64 (wordAt l z.toNat))) w) := by
 have hlen := Bs.len_le h0
 obtain ⟨i, rfl⟩ : ∃ i : Nat, z = (i : Int) := ⟨z.toNat, by omega⟩
 simp only [Int.toNat_natCast] at hz1 ⊢
 have hbe := be_two hz1
 have hw := wordAt_bd l i
 have h8 : (subl l i (i + 2)).take 8 = subl l i (i + 2) := List.take_of_length_le (by simp [subl]; omega)
 refine enter Try.func18 rfl Try.ntmps18 (k := 2) rfl (by decide) (fun a0 hr hargs => ?_)
 have s0 := sarg h0 (hargs 0 (by decide))
 have s1 := sarg h1 (hargs 1 (by decide))
 clear hargs
 refine wp_seq ?_
 refine wp_reg 12 [[]] [?b1_0] mixed (by kernel_rfl) (by kernel_rfl) hr ?t1 ?o1 ?_
 case o1 =>
  refine oc0 (fun A W hx hf => ?_) ?_
  exact ok_assignc
  exact OpsOk.nil
 case t1 => exact inferInstance
 clear hr; intro a2 w2 x hr hd hs
 revert s0 s1; refine kp2 hs rfl ?_; intro s0 s1
 have e_w := x
 clear hd hs x
 refine exit_then ?_
 refine wp_seq ?_
 refine wp_reg 12 [[(0, none)], [(1, none)], [(1, none)], [(7, some 2)], [(5, some 0), (6, some 1), (8, some 3)], [(9, some 4)], [(10, some 5)], [(11, some 6)]] [?b3_0, ?b3_1, ?b3_2, ?b3_3, ?b3_4, ?b3_5, ?b3_6, ?b3_6] mixed (by kernel_rfl) (by kernel_rfl) hr ?t3 ?o3 ?_
 case o3 =>
  refine oc0 (fun A W hx hf => ?_) ?_
  exact ok_movE (a0 := a2) (r0 hf)
  refine oc0 (fun A W hx hf => ?_) ?_
  exact ok_movE (a0 := a2) (r0 hf)
  refine oc0 (fun A W hx hf => ?_) ?_
  exact ok_movE (a0 := a2) (r0 hf)
  refine oc0 (fun A W hx hf => ?_) ?_
  exact ok_addI (p2 s1 e_w hx (q0 ?b3_2 A W 7 hf)) (ec A (.int .i64 2)) (by omega)
  refine oc0 (fun A W hx hf => ?_) ?_
  exact ok_slice_lh (i) (i + 2) Try.underlying22 size5 (p2 s0 e_w hx (q0 ?b3_0 A W 5 hf)) (p2 s1 e_w hx (q1 ?b3_1 A W 6 hf)) (Is.int (q2 ?b3_3 A W 8 hf) (by omega)) (by first | omega | decide | (simp; done) | (simp; omega)) (by first | omega | decide | (simp; done) | (simp; omega))
  refine oc0 (fun A W hx hf => ?_) ?_
  exact ok_call2 body29 (c_Get (q0 ?b3_4 A W 9 hf) (show Is (.bool true) (A.eval (.const (.bool true))) _ from rfl))
  refine oc0 (fun A W hx hf => ?_) ?_
  exact ok_convI Try.underlying55 Try.underlying3 (by rw [h8, hbe]; exact IntWalk.i64_in _ (by omega)) (q0 ?b3_5 A W 10 hf)
  refine oc0 (fun A W hx hf => ?_) ?_
  exact ok_assign (q0 ?b3_6 A W 11 hf)
  exact OpsOk.nil
 case t3 => exact inferInstance
 clear hr; intro a4 w4 x hr hd hs
 clear s0 s1
 have s4 := fa ?b3_6 a4 w4 4 (hd 7 4 rfl)
 replace e_w := e_w.trans x
 clear hd hs x
 refine exit_then ?_
 refine wp_ret ?_
 refine ret_tmp Try.results18 hr e_w ?_
 exact Is.int s4 (by rw [h8, hbe])

theorem c_addr {x0 : Value} {w : World} {l : List UInt8} (h0 : (Bs l) x0 w) (hl : 4 ≤ l.length) :
    Calls Try.prog 20 #[x0] w (Ret (Is (AdrV (adr4 l 0))) w) := by
 refine enter Try.func20 rfl Try.ntmps20 (k := 1) rfl (by decide) (fun a0 hr hargs => ?_)
 have s0 := sarg h0 (hargs 0 (by decide))
 clear hargs
 refine wp_seq ?_
 refine wp_reg 9 [[]] [?b1_0] mixed (by kernel_rfl) (by kernel_rfl) hr ?t1 ?o1 ?_
 case o1 =>
  refine oc0 (fun A W hx hf => ?_) ?_
  exact ok_allocS [adrCells adr0] [17] zerov26 (by rfl) (by rfl) hx.size
  exact OpsOk.nil
 case t1 => exact inferInstance
 clear hr; intro a2 w2 x hr hd hs
 revert s0; refine kp1 hs rfl ?_; intro s0
 have s2 := fa ?b1_0 a2 w2 2 (hd 0 2 rfl)
 obtain ⟨g2_2, q2_2⟩ := PxN.at s2; clear s2; have n2_2 := PxS.lt q2_2
 have s2 := q2_2; clear q2_2
 have e_w := x
 clear hd hs x
 refine exit_then ?_
 refine wp_seq ?_
 refine wp_reg 9 [[]] [?b3_0] mixed (by kernel_rfl) (by kernel_rfl) hr ?t3 ?o3 ?_
 case o3 =>
  refine oc0 (fun A W hx hf => ?_) ?_
  exact ok_allocS [[.bool false], (List.replicate 16 0).map byteV] [1, 16] zerov26 (by rfl) (by rfl) hx.size
  exact OpsOk.nil
 case t3 => exact inferInstance
 clear hr; intro a4 w4 x hr hd hs
 have z_w_w2 := e_w.size
 have l4_2 := PxS.lt s2
 revert s0 s2; refine kp2 hs rfl ?_; intro s0 s2
 have s3 := fa ?b3_0 a4 w4 3 (hd 0 3 rfl)
 obtain ⟨g4_3, q4_3⟩ := PxN.at s3; clear s3; have n4_3 := PxS.lt q4_3
 replace q4_3 := PxS.mono q4_3 e_w.size
 have s3 := q4_3; clear q4_3
 replace e_w := e_w.trans x
 have e_w2 := x
 clear hd hs x
 refine exit_then ?_
 refine wp_seq ?_
 refine wp_reg_pre (l := [_, _, _]) (rest := [_]) 9 [[(3, none)], [(4, some 0)], [(0, none)]] [?b5_0, ?b5_1, ?b5_2] (by kernel_rfl) (by kernel_rfl) hr ?t5 ?o5 ?_
 case o5 =>
  refine oc0 (fun A W hx hf => ?_) ?_
  exact ok_fieldS 1 Try.underlying26 (k := 1) rfl size24 rfl (o1 s3 hx (r0 hf)) rfl
  refine oc0 (fun A W hx hf => ?_) ?_
  exact ok_sliceSh (4) Try.underlying24 size5 (q0 ?b5_0 A W 4 hf) rfl (ec A (.int .i64 4)) (by first | omega | decide | (simp; done) | (simp; omega))
  refine oc0 (fun A W hx hf => ?_) ?_
  exact ok_movE (a0 := a4) (r0 hf)
  exact OpsOk.nil
 case t5 => exact inferInstance
 clear hr; intro a6 w6 x hr hd hs
 have u6 := mv s0 (fa ?b5_2 a6 w6 6 (hd 2 6 rfl))
 revert s2 s3; refine kp2 hs rfl ?_; intro s2 s3
 clear s0
 have s6 := u6; clear u6
 have s5 := fa ?b5_1 a6 w6 5 (hd 1 5 rfl)
 replace e_w := e_w.trans x
 replace e_w2 := e_w2.trans x
 have e_w4 := x
 clear hd hs x
 have z7 := SxS.lt s5
 have l7 := (show (g4_3 = 0 ∨ w.heap.size < g4_3) ∧ True from ⟨by omega, trivial⟩)
 have l7_2 := PxS.lt (later e_w2 s2)
 refine wl_copyS hr Try.underlying22 size5 s5 rfl (later e_w s6) ?_; clear hr; intro a7 w7 hc hu hr hs
 have hb : Below w.heap.size w6 w7 := hc.below e_w.size l7.1
 revert s2 s3; refine kp2 hs rfl ?_; intro s2 s3
 clear s6 s5
 replace s2 := PxS.other (later e_w2 s2) hc (by omega)
 replace s3 := hu _ _ _ (later e_w4 s3)
 try simp only [List.set_cons_zero, List.set_cons_succ] at s3
 replace e_w := e_w.below (Nat.le_refl _) hb
 clear e_w2
 clear e_w4
 clear hu hs hc hb
 refine wpList_nil ?_
 refine exit_then ?_
 refine wp_seq ?_
 refine wp_reg_pre (l := [_]) (rest := [_]) 9 [[(3, none)]] [?b8_0] (by kernel_rfl) (by kernel_rfl) hr ?t8 ?o8 ?_
 case o8 =>
  refine oc0 (fun A W hx hf => ?_) ?_
  exact ok_loadAggS 2 Try.underlying26 rfl size26 (o1 s3 hx (r0 hf)) rfl
  exact OpsOk.nil
 case t8 => exact inferInstance
 clear hr; intro a9 w9 x hr hd hs
 revert s2; refine kp1 hs rfl ?_; intro s2
 clear s3
 have s8 := fa ?b8_0 a9 w9 8 (hd 0 8 rfl)
 replace e_w := e_w.trans x
 have e_w7 := x
 clear hd hs x
 have z10 := PxS.lt (later e_w7 s2)
 have l10 := (show (g2_2 = 0 ∨ w.heap.size < g2_2) ∧ True from ⟨by omega, trivial⟩)
 refine wl_storeSn hr size26 (later e_w7 s2) s8 (by simp [cpy]; omega) (by intro u hu; simp at hu; rcases hu with rfl | ⟨c, _, rfl⟩ <;> rfl) rfl ?_; clear hr; intro a10 w10 hc hu hr hs
 have hb : Below w.heap.size w9 w10 := hc.below e_w.size l10.1
 revert s2; refine kp1 hs rfl ?_; intro s2
 clear s8
 replace s2 := hu _ _ _ (later e_w7 s2)
 try simp only [List.set_cons_zero, List.set_cons_succ] at s2
 replace e_w := e_w.below (Nat.le_refl _) hb
 clear e_w7
 clear hu hs hc hb
 refine wpList_nil ?_
 refine exit_then ?_
 refine wp_ret ?_
 refine ret_cell Try.results20 hr Try.underlying26 rfl size26 s2 e_w ?_
 exact (show Value.agg _ = _ from by simp [AdrV, adrCells, adr4, cpy, show min 4 l.length = 4 from by omega])

end Go.Proofs.Ytehhjmcdpcilfaa
