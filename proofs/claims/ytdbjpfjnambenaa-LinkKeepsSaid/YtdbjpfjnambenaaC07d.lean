import Derived.Test.YtdbjpfjnambenaaC07a
namespace Go.Proofs.Ytdbjpfjnambenaa
open Go.RowKit
set_option linter.unusedVariables false
set_option maxRecDepth 4000
theorem c_lTurn {x0 x1 x2 : Value} {w : World} {l d s : List UInt8} {B : Nat} (h0 : (Bs l) x0 w) (h1 : (Is (.agg (d.map byteV).toArray)) x1 w) (h2 : (Is (.agg (s.map byteV).toArray)) x2 w) (hd : d.length = 6) (hs9 : s.length = 6) (hn9 : l.length ≤ 1000000000000) (hB : B ≤ w.heap.size) :
    Calls Try.prog 17 #[x0, x1, x2] w (Ret (OwnB B 5 (turnL l d s)) w) := by
 have hlen := Bs.len_le h0
 have hcl : (cpy l 0 (l.length - 0) d).length = l.length := cpy_len (by omega)
 have hcl0 : (cpy l 0 l.length d).length = l.length := cpy_len (by omega)
 refine enter Try.func17 rfl Try.ntmps17 (k := 3) rfl (by decide) (fun a0 hr hargs => ?_)
 have s0 := sarg h0 (hargs 0 (by decide))
 have s1 := sarg h1 (hargs 1 (by decide))
 have s2 := sarg h2 (hargs 2 (by decide))
 clear hargs
 refine wp_seq ?_
 refine wp_reg 21 [[(1, none)], [(2, none)], []] [?b1_0, ?b1_1, ?b1_2] mixed (by kernel_rfl) (by kernel_rfl) hr ?t1 ?o1 ?_
 case o1 =>
  refine oc0 (fun A W hx hf => ?_) ?_
  exact ok_boxS [d.map byteV] [6] (Is.conv (o1 s1 hx (r0 hf)) (show _ = Value.agg [d.map byteV].flatten.toArray from by simp)) (by simp [hd]) hx.size
  refine oc0 (fun A W hx hf => ?_) ?_
  exact ok_boxS [s.map byteV] [6] (Is.conv (o1 s2 hx (r0 hf)) (show _ = Value.agg [s.map byteV].flatten.toArray from by simp)) (by simp [hs9]) hx.size
  refine oc0 (fun A W hx hf => ?_) ?_
  exact ok_assignv (Bs []) (fun _ => bs_nil)
  exact OpsOk.nil
 case t1 => exact inferInstance
 clear hr; intro a2 w2 x hr hd hs
 revert s0; refine kp1 hs rfl ?_; intro s0
 clear s1 s2
 have s4 := fa ?b1_0 a2 w2 4 (hd 0 4 rfl)
 have s5 := fa ?b1_1 a2 w2 5 (hd 1 5 rfl)
 obtain ⟨g2_4, q2_4⟩ := PxN.at s4; clear s4; have n2_4 := PxS.lt q2_4
 have s4 := q2_4; clear q2_4
 obtain ⟨g2_5, q2_5⟩ := PxN.at s5; clear s5; have n2_5 := PxS.lt q2_5
 have s5 := q2_5; clear q2_5
 have e_w := x
 clear hd hs x
 refine exit_then ?_
 refine wp_seq ?_
 refine wp_reg 21 [[(0, none)], [(8, some 0)], [(9, some 1)]] [?b3_0, ?b3_1, ?b3_1] mixed (by kernel_rfl) (by kernel_rfl) hr ?t3 ?o3 ?_
 case o3 =>
  refine oc0 (fun A W hx hf => ?_) ?_
  exact ok_movE (a0 := a2) (r0 hf)
  refine oc0 (fun A W hx hf => ?_) ?_
  exact ok_call1 body25 (c_Clone (p2 s0 e_w hx (q0 ?b3_0 A W 8 hf)) (by omega) hx.size)
  refine oc0 (fun A W hx hf => ?_) ?_
  exact ok_assign (q0 ?b3_1 A W 9 hf)
  exact OpsOk.nil
 case t3 => exact inferInstance
 clear hr; intro a4 w4 x hr hd hs
 have z_w_w2 := e_w.size
 have l4_4 := PxS.lt s4
 have l4_5 := PxS.lt s5
 revert s5; revert s4; refine kp2 hs rfl ?_; intro s4 s5
 clear s0
 have s7 := fa ?b3_1 a4 w4 7 (hd 2 7 rfl)
 obtain ⟨g4_7, q4_7⟩ := OwnB.at s7; clear s7; have n4_7 := OwnBA.lt q4_7
 replace q4_7 := OwnBA.mono q4_7 e_w.size
 have s7 := q4_7; clear q4_7
 replace e_w := e_w.trans x
 have e_w2 := x
 clear hd hs x
 refine exit_then ?_
 refine wp_seq ?_
 refine wp_reg_pre (l := [_, _]) (rest := [_]) 21 [[(7, none)], [(4, none)]] [?b5_0, ?b5_1] (by kernel_rfl) (by kernel_rfl) hr ?t5 ?o5 ?_
 case o5 =>
  refine oc0 (fun A W hx hf => ?_) ?_
  exact ok_movE (a0 := a4) (r0 hf)
  refine oc0 (fun A W hx hf => ?_) ?_
  exact ok_sliceS Try.underlying24 size5 (o2 s4 e_w2 hx (r0 hf)) rfl
  exact OpsOk.nil
 case t5 => exact inferInstance
 clear hr; intro a6 w6 x hr hd hs
 have u10 := mv s7 (fa ?b5_0 a6 w6 10 (hd 0 10 rfl))
 revert s7; revert s5; refine kp2 hs rfl ?_; intro s5 s7
 clear s4
 have s10 := u10; clear u10
 have s11 := fa ?b5_1 a6 w6 11 (hd 1 11 rfl)
 replace e_w := e_w.trans x
 replace e_w2 := e_w2.trans x
 have e_w4 := x
 clear hd hs x
 have z7 := OwnBA.lt (later e_w4 s10)
 have l7 := (show (g4_7 = 0 ∨ w.heap.size < g4_7) ∧ True from ⟨by omega, trivial⟩)
 have l7_5 := PxS.lt (later e_w2 s5)
 refine wl_copyA hr Try.underlying22 size5 (SubA.whole (later e_w4 s10)) (SxS.all s11 rfl (by decide)) ?_; clear hr; intro a7 w7 hc hu hr hs
 have hb : Below w.heap.size w6 w7 := hc.below e_w.size l7.1
 revert s7; revert s5; refine kp2 hs rfl ?_; intro s5 s7
 clear s10 s11
 replace s5 := PxS.other (later e_w2 s5) hc (by omega)
 replace s7 := hu _ _ _ (later e_w4 s7)
 replace e_w := e_w.below (Nat.le_refl _) hb
 clear e_w2
 clear e_w4
 clear hu hs hc hb
 refine wpList_nil ?_
 refine exit_then ?_
 refine wp_seq ?_
 refine wp_seq ?_
 refine wp_reg 21 [[(7, none)], [(13, some 0)], [(14, some 1)]] [?b8_0, ?b8_1, ?b8_2] mixed (by kernel_rfl) (by kernel_rfl) hr ?t8 ?o8 ?_
 case o8 =>
  refine oc0 (fun A W hx hf => ?_) ?_
  exact ok_movE (a0 := a7) (r0 hf)
  refine oc0 (fun A W hx hf => ?_) ?_
  exact ok_len_bs Try.underlying22 (OwnBA.bs (p1 s7 hx (q0 ?b8_0 A W 13 hf)))
  refine oc0 (fun A W hx hf => ?_) ?_
  exact ok_gtr (q0 ?b8_1 A W 14 hf) (ec A (.int .i64 6))
  exact OpsOk.nil
 case t8 => exact inferInstance
 clear hr; intro a9 w9 x hr hd hs
 revert s7; revert s5; refine kp2 hs rfl ?_; intro s5 s7
 have s15 := fa ?b8_2 a9 w9 15 (hd 2 15 rfl)
 replace e_w := e_w.trans x
 have e_w7 := x
 clear hd hs x
 refine exit_then ?_
 refine wp_cond_split (show _ = _ from s15) (fun h6 => ?_) (fun h6 => ?_)
 · skip
   have h6 : l.length > 6 := by simp [hcl, hcl0] at h6; omega
   refine wp_any_start mixed (fun w11 x => ?_)
   show wpAny _ _ _ _ 4 _ _ _
   replace e_w := e_w.trans x
   replace e_w7 := e_w7.trans x
   have e_w9 := x
   clear x
   refine wp_sel (l := [_, _, _, _]) 21 _ [false, false, false, true] [3] [[(7, none)], [(16, some 0)], [(5, none)], []] [?b12_0, ?b12_1, ?b12_2, VP.top] (by kernel_rfl) rfl (by kernel_rfl) hr ?t12 ?o12 ?_
   case o12 =>
    refine lc0 (fun A W hx hf => ?_) ?_
    exact ok_movE (a0 := a9) (r0 hf)
    refine lc0 (fun A W hx hf => ?_) ?_
    exact ok_subA (6) Try.underlying22 size5 (p2 s7 e_w7 hx (q0 ?b12_0 A W 16 hf)) (ec A (.int .i64 6)) (by rw [hcl]; omega)
    refine lc0 (fun A W hx hf => ?_) ?_
    exact ok_sliceS Try.underlying24 size5 (o2 s5 e_w7 hx (r0 hf)) rfl
    refine lcs ?_
    exact lcn
   case t12 => exact inferInstance
   clear hr; intro a13 w13 x hr hd hs
   have u16 := mv s7 (fa ?b12_0 a13 w13 16 (hd 0 16 rfl rfl))
   revert s7; revert s5; refine kp2 hs rfl ?_; intro s5 s7
   clear s15
   have s16 := u16; clear u16
   have s17 := fa ?b12_1 a13 w13 17 (hd 1 17 rfl rfl)
   have s18 := fa ?b12_2 a13 w13 18 (hd 2 18 rfl rfl)
   replace e_w := e_w.trans x
   replace e_w7 := e_w7.trans x
   clear e_w9
   clear hd hs x
   show wpList _ _ _ [_] _ _
   have z14 := SubA.lt s17
   have l14 := (show (g4_7 = 0 ∨ w.heap.size < g4_7) ∧ True from ⟨by omega, trivial⟩)
   refine wl_copyA hr Try.underlying22 size5 s17 (SxS.all s18 rfl (by decide)) ?_; clear hr; intro a14 w14 hc hu hr hs
   have hb : Below w.heap.size w13 w14 := hc.below e_w.size l14.1
   revert s7; refine kp1 hs rfl ?_; intro s7
   clear s5 s16 s17 s18
   replace s7 := hu _ _ _ (later e_w7 s7)
   replace e_w := e_w.below (Nat.le_refl _) hb
   clear e_w7
   clear hu hs hc hb
   refine wpList_nil ?_
   refine exit_then ?_
   refine wp_seq ?_
   refine wp_reg 21 [[(7, none)], [(20, some 0)]] [?b15_0, ?b15_0] mixed (by kernel_rfl) (by kernel_rfl) hr ?t15 ?o15 ?_
   case o15 =>
    refine oc0 (fun A W hx hf => ?_) ?_
    exact ok_movE (a0 := a14) (r0 hf)
    refine oc0 (fun A W hx hf => ?_) ?_
    exact ok_assign (q0 ?b15_0 A W 20 hf)
    exact OpsOk.nil
   case t15 => exact inferInstance
   clear hr; intro a16 w16 x hr hd hs
   have u6 := mv s7 (fa ?b15_0 a16 w16 6 (hd 1 6 rfl))
   clear s7
   have s6 := u6; clear u6
   replace e_w := e_w.trans x
   have e_w14 := x
   clear hd hs x
   refine exit_then ?_
   refine wp_ret ?_
   refine ret_tmp Try.results17 hr e_w ?_
   first | exact OwnB.cast (OwnB.mono (later e_w14 s6).own hB) (by unfold turnL; rw [if_pos h6]) | exact OwnB.cast (OwnB.mono (later e_w14 s6).own hB) (by unfold turnL; rw [if_neg h6])
 · skip
   have h6 : ¬ l.length > 6 := by simp [hcl, hcl0] at h6; omega
   refine wp_skip ?_
   refine exit_then ?_
   refine wp_seq ?_
   refine wp_reg 21 [[(7, none)], [(20, some 0)]] [?b17_0, ?b17_0] mixed (by kernel_rfl) (by kernel_rfl) hr ?t17 ?o17 ?_
   case o17 =>
    refine oc0 (fun A W hx hf => ?_) ?_
    exact ok_movE (a0 := a9) (r0 hf)
    refine oc0 (fun A W hx hf => ?_) ?_
    exact ok_assign (q0 ?b17_0 A W 20 hf)
    exact OpsOk.nil
   case t17 => exact inferInstance
   clear hr; intro a18 w18 x hr hd hs
   have u6 := mv s7 (fa ?b17_0 a18 w18 6 (hd 1 6 rfl))
   clear s5 s7 s15
   have s6 := u6; clear u6
   replace e_w := e_w.trans x
   replace e_w7 := e_w7.trans x
   clear hd hs x
   refine exit_then ?_
   refine wp_ret ?_
   refine ret_tmp Try.results17 hr e_w ?_
   first | exact OwnB.cast (OwnB.mono (later e_w7 s6).own hB) (by unfold turnL; rw [if_pos h6]) | exact OwnB.cast (OwnB.mono (later e_w7 s6).own hB) (by unfold turnL; rw [if_neg h6])

end Go.Proofs.Ytdbjpfjnambenaa
