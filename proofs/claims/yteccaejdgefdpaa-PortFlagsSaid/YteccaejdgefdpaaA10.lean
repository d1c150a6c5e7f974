import Derived.Test.YteccaejdgefdpaaC10e
import Derived.Test.YteccaejdgefdpaaC10f
import Derived.Test.YteccaejdgefdpaaE10
namespace Go.Proofs.Yteccaejdgefdpaa
open Go.RowKit
set_option linter.unusedVariables false
set_option maxRecDepth 4000
theorem c_proto {x0 : Value} {w : World} {u : Bool} (h0 : (Is (.bool u)) x0 w)  :
    Calls Try.prog 16 #[x0] w (Ret (Is (.int .i64 (protoI u))) w) := by
 refine enter Try.func16 rfl Try.ntmps16 (k := 1) rfl (by decide) (fun a0 hr hargs => ?_)
 have s0 := sarg h0 (hargs 0 (by decide))
 clear hargs
 refine wp_seq ?_
 refine wp_reg 4 [[]] [?b1_0] mixed (by kernel_rfl) (by kernel_rfl) hr ?t1 ?o1 ?_
 case o1 =>
  refine oc0 (fun A W hx hf => ?_) ?_
  exact ok_assignc
  exact OpsOk.nil
 case t1 => exact inferInstance
 clear hr; intro a2 w2 x hr hd hs
 revert s0; refine kp1 hs rfl ?_; intro s0
 have e_w := x
 clear hd hs x
 refine exit_then ?_
 refine wp_seq ?_
 refine wp_seq ?_
 refine wp_reg 4 [[(0, none)]] [?b3_0] mixed (by kernel_rfl) (by kernel_rfl) hr ?t3 ?o3 ?_
 case o3 =>
  refine oc0 (fun A W hx hf => ?_) ?_
  exact ok_movE (a0 := a2) (r0 hf)
  exact OpsOk.nil
 case t3 => exact inferInstance
 clear hr; intro a4 w4 x hr hd hs
 have u3 := mv s0 (fa ?b3_0 a4 w4 3 (hd 0 3 rfl))
 clear s0
 have s3 := u3; clear u3
 replace e_w := e_w.trans x
 clear hd hs x
 refine exit_then ?_
 refine wp_cond_split (show _ = _ from s3) (fun hu => ?_) (fun hu => ?_)
 · skip
   subst hu
   refine wp_seq ?_
   refine wp_reg 4 [[]] [?b6_0] mixed (by kernel_rfl) (by kernel_rfl) hr ?t6 ?o6 ?_
   case o6 =>
    refine oc0 (fun A W hx hf => ?_) ?_
    exact ok_assignc
    exact OpsOk.nil
   case t6 => exact inferInstance
   clear hr; intro a7 w7 x hr hd hs
   clear s3
   have s2 := fa ?b6_0 a7 w7 2 (hd 0 2 rfl)
   replace e_w := e_w.trans x
   clear hd hs x
   refine exit_then ?_
   refine wp_ret ?_
   refine then_ret ?_
   refine ret_tmp Try.results16 hr e_w ?_
   exact Is.int s2 rfl
 · skip
   subst hu
   refine wp_skip ?_
   refine exit_then ?_
   refine wp_seq ?_
   refine wp_reg 4 [[]] [?b8_0] mixed (by kernel_rfl) (by kernel_rfl) hr ?t8 ?o8 ?_
   case o8 =>
    refine oc0 (fun A W hx hf => ?_) ?_
    exact ok_assignc
    exact OpsOk.nil
   case t8 => exact inferInstance
   clear hr; intro a9 w9 x hr hd hs
   clear s3
   have s2 := fa ?b8_0 a9 w9 2 (hd 0 2 rfl)
   replace e_w := e_w.trans x
   clear hd hs x
   refine exit_then ?_
   refine wp_ret ?_
   refine ret_tmp Try.results16 hr e_w ?_
   exact Is.int s2 rfl

theorem c_fit {x0 x1 x2 x3 : Value} {w : World} {Sa Da : Adr} {u : Bool} {l : List UInt8} (h0 : (Is (AdrV Sa)) x0 w) (h1 : (Is (AdrV Da)) x1 w) (h2 : (Is (.bool u)) x2 w) (h3 : (Bs l) x3 w) (hA : Sa.b.length = 16) (hD : Da.b.length = 16) :
    Calls Try.prog 14 #[x0, x1, x2, x3] w (Ret (Is (.bool (fitB Sa Da u l))) w) := by
 have hlen := Bs.len_le h3
 refine enter Try.func14 rfl Try.ntmps14 (k := 4) rfl (by decide) (fun a0 hr hargs => ?_)
 have s0 := sarg h0 (hargs 0 (by decide))
 have s1 := sarg h1 (hargs 1 (by decide))
 have s2 := sarg h2 (hargs 2 (by decide))
 have s3 := sarg h3 (hargs 3 (by decide))
 clear hargs
 refine wp_seq ?_
 refine wp_reg 32 [[(0, none)], [(1, none)], []] [?b1_0, ?b1_1, ?b1_2] mixed (by kernel_rfl) (by kernel_rfl) hr ?t1 ?o1 ?_
 case o1 =>
  refine oc0 (fun A W hx hf => ?_) ?_
  exact ok_boxS [[.bool Sa.six], Sa.b.map byteV] [1, 16] (Is.conv (o1 s0 hx (r0 hf)) (adr_seg Sa).symm) (by simp [*]) hx.size
  refine oc0 (fun A W hx hf => ?_) ?_
  exact ok_boxS [[.bool Da.six], Da.b.map byteV] [1, 16] (Is.conv (o1 s1 hx (r0 hf)) (adr_seg Da).symm) (by simp [*]) hx.size
  refine oc0 (fun A W hx hf => ?_) ?_
  exact ok_assignc
  exact OpsOk.nil
 case t1 => exact inferInstance
 clear hr; intro a2 w2 x hr hd hs
 revert s2 s3; refine kp2 hs rfl ?_; intro s2 s3
 clear s0 s1
 have s4 := fa ?b1_0 a2 w2 4 (hd 0 4 rfl)
 have s5 := fa ?b1_1 a2 w2 5 (hd 1 5 rfl)
 obtain ⟨g2_4, q2_4⟩ := PxN.at s4; clear s4; have n2_4 := PxS.lt q2_4
 have s4 := q2_4; clear q2_4
 obtain ⟨g2_5, q2_5⟩ := PxN.at s5; clear s5; have n2_5 := PxS.lt q2_5
 have s5 := q2_5; clear q2_5
 have e_w := x
 clear hd hs x
 refine exit_then ?_
 refine wp_seq ?_
 refine wp_reg_pre (l := [_, _, _, _, _, _, _, _]) (rest := [_, _]) 32 [[(2, none)], [(12, some 0)], [(3, none)], [(13, some 1), (14, some 2)], [(15, some 3)], [(11, some 4)], [(11, some 4)], []] [?b3_0, ?b3_1, ?b3_2, ?b3_3, ?b3_3, ?b3_5, ?b3_6, ?b3_7] (by kernel_rfl) (by kernel_rfl) hr ?t3 ?o3 ?_
 case o3 =>
  refine oc0 (fun A W hx hf => ?_) ?_
  exact ok_movE (a0 := a2) (r0 hf)
  refine oc0 (fun A W hx hf => ?_) ?_
  exact ok_call1 body16 (c_proto (p2 s2 e_w hx (q0 ?b3_0 A W 12 hf)))
  refine oc0 (fun A W hx hf => ?_) ?_
  exact ok_movE (a0 := a2) (r0 hf)
  refine oc0 (fun A W hx hf => ?_) ?_
  exact ok_call2 body11 (c_r10Read (q0 ?b3_1 A W 13 hf) (p2 s3 e_w hx (q1 ?b3_2 A W 14 hf)))
  refine oc0 (fun A W hx hf => ?_) ?_
  exact ok_move (q0 ?b3_3 A W 15 hf)
  refine oc0 (fun A W hx hf => ?_) ?_
  exact ok_ext0 (q0 ?b3_3 A W 11 hf)
  refine oc0 (fun A W hx hf => ?_) ?_
  exact ok_ext1 (q0 ?b3_3 A W 11 hf)
  refine oc0 (fun A W hx hf => ?_) ?_
  exact ok_allocS [(portS port0).flatten] [5] zerov25 (by rfl) (by rfl) hx.size
  exact OpsOk.nil
 case t3 => exact inferInstance
 clear hr; intro a4 w4 x hr hd hs
 have z_w_w2 := e_w.size
 have l4_4 := PxS.lt s4
 have l4_5 := PxS.lt s5
 revert s3 s4 s5; refine kp3 hs rfl ?_; intro s3 s4 s5
 clear s2
 have s16 := fa ?b3_5 a4 w4 16 (hd 5 16 rfl)
 have s17 := fa ?b3_6 a4 w4 17 (hd 6 17 rfl)
 have s9 := fa ?b3_7 a4 w4 9 (hd 7 9 rfl)
 obtain ⟨g4_9, q4_9⟩ := PxN.at s9; clear s9; have n4_9 := PxS.lt q4_9
 replace q4_9 := PxS.mono q4_9 e_w.size
 have s9 := q4_9; clear q4_9
 replace e_w := e_w.trans x
 have e_w2 := x
 clear hd hs x
 have z5 := PxS.lt s9
 have l5 := (show (g4_9 = 0 ∨ w.heap.size < g4_9) ∧ True from ⟨by omega, trivial⟩)
 have l5_4 := PxS.lt (later e_w2 s4)
 have l5_5 := PxS.lt (later e_w2 s5)
 refine wl_storeSn hr size25 s9 s16 (by exact port_len _) (by exact port_one) rfl ?_; clear hr; intro a5 w5 hc hu hr hs
 have hb : Below w.heap.size w4 w5 := hc.below e_w.size l5.1
 revert s3 s4 s5 s17; refine kp4 hs rfl ?_; intro s3 s4 s5 s17
 clear s16 s9
 replace s4 := PxS.other (later e_w2 s4) hc (by omega)
 replace s5 := PxS.other (later e_w2 s5) hc (by omega)
 replace e_w := e_w.below (Nat.le_refl _) hb
 clear e_w2
 replace s17 := anyw (w2 := w5) s17
 clear hu hs hc hb
 refine wl_op hr (ok_assign s17) inferInstance ?_; clear hr; intro a6 w6 x hr hd hs
 revert s3 s4 s5; refine kp3 hs rfl ?_; intro s3 s4 s5
 clear s17
 have s10 := hd 10 rfl (by decide)
 replace e_w := e_w.trans x
 have e_w5 := x
 clear hd hs x
 refine wpList_nil ?_
 refine exit_then ?_
 refine wp_seq ?_
 refine wp_reg 32 [[(4, none)], [(18, some 0)], [(5, none)], [(20, some 2)], [(19, some 1), (21, some 3)], [(22, some 4)], [(10, none), (23, some 5)], [(24, some 6), (23, some 5)], [(23, some 5), (25, some 7)], [(26, some 8)], [(3, none), (27, some 9)], [(28, some 10), (27, some 9)], [(29, some 11), (27, some 9)], [(27, some 9), (30, some 12)], [(31, some 13)]] [?b7_0, ?b7_1, ?b7_2, ?b7_3, ?b7_4, ?b7_4, ?b7_6, ?b7_7, ?b7_8, ?b7_8, ?b7_10, ?b7_11, ?b7_12, ?b7_13, ?b7_13] mixed (by kernel_rfl) (by kernel_rfl) hr ?t7 ?o7 ?_
 case o7 =>
  refine oc0 (fun A W hx hf => ?_) ?_
  exact ok_fieldS 0 Try.underlying35 (k := 0) rfl size4 rfl (o2 s4 e_w5 hx (r0 hf)) rfl
  refine oc0 (fun A W hx hf => ?_) ?_
  exact ok_loadS Try.underlying4 rfl (q0 ?b7_0 A W 18 hf) rfl
  refine oc0 (fun A W hx hf => ?_) ?_
  exact ok_fieldS 0 Try.underlying35 (k := 0) rfl size4 rfl (o2 s5 e_w5 hx (r0 hf)) rfl
  refine oc0 (fun A W hx hf => ?_) ?_
  exact ok_loadS Try.underlying4 rfl (q0 ?b7_2 A W 20 hf) rfl
  refine oc0 (fun A W hx hf => ?_) ?_
  exact ok_eqb Try.underlying4 (q0 ?b7_1 A W 19 hf) (q1 ?b7_3 A W 21 hf)
  refine oc0 (fun A W hx hf => ?_) ?_
  exact ok_move (q0 ?b7_4 A W 22 hf)
  refine ocg 23 ?_ (fun A W hx hf => ?_) ?_
  rfl
  exact gd_t (q1 ?b7_4 A W 23 hf) (fun hc => ok_movE (a0 := a6) (r0 hf))
  refine ocg 23 ?_ (fun A W hx hf => ?_) ?_
  rfl
  exact gd_t (q1 ?b7_4 A W 23 hf) (fun hc => ok_eql (p1 s10 hx (G.get (q0 ?b7_6 A W 24 hf) hc)) (ec A (.int .i64 0)))
  refine oc0 (fun A W hx hf => ?_) ?_
  exact ok_and (q0 ?b7_4 A W 23 hf) (q1 ?b7_7 A W 25 hf)
  refine oc0 (fun A W hx hf => ?_) ?_
  exact ok_move (q0 ?b7_8 A W 26 hf)
  refine ocg 27 ?_ (fun A W hx hf => ?_) ?_
  rfl
  exact gd_t (q1 ?b7_8 A W 27 hf) (fun hc => ok_movE (a0 := a6) (r0 hf))
  refine ocg 27 ?_ (fun A W hx hf => ?_) ?_
  rfl
  exact gd_t (q1 ?b7_8 A W 27 hf) (fun hc => ok_len_bs Try.underlying22 (p2 s3 e_w hx (G.get (q0 ?b7_10 A W 28 hf) hc)))
  refine ocg 27 ?_ (fun A W hx hf => ?_) ?_
  rfl
  exact gd_t (q1 ?b7_8 A W 27 hf) (fun hc => ok_leq (G.get (q0 ?b7_11 A W 29 hf) hc) (ec A (.int .i64 1000)))
  refine oc0 (fun A W hx hf => ?_) ?_
  exact ok_and (q0 ?b7_8 A W 27 hf) (q1 ?b7_12 A W 30 hf)
  refine oc0 (fun A W hx hf => ?_) ?_
  exact ok_assign (q0 ?b7_13 A W 31 hf)
  exact OpsOk.nil
 case t7 => exact inferInstance
 clear hr; intro a8 w8 x hr hd hs
 clear s3 s4 s5 s10
 have s8 := fa ?b7_13 a8 w8 8 (hd 14 8 rfl)
 replace e_w := e_w.trans x
 clear e_w5
 clear hd hs x
 refine exit_then ?_
 refine wp_ret ?_
 refine ret_tmp Try.results14 hr e_w ?_
 exact Is.bool s8 fit_end

theorem c_awake10 {w : World}    :
    Calls Try.prog 9 #[] w (Ret (Is (.bool true)) w) := by
 have hpr : portRead 17 [0, 1, 0, 2, 0, 8, 0, 0] = (⟨1, 2, 0, 8, 8⟩, 0) := by rfl
 have hok : (portRead 17 [0, 1, 0, 2, 0, 8, 0, 0]).2 = 0 := by rw [hpr]
 have hA : adr1.b.length = 16 := rfl
 have hr1 := fill_right (Sa := adr1) (Da := adr1) hA hA hok
 have hfl := fill_len (Sa := adr1) (Da := adr1) hok
 have hfr := fill_read (Sa := adr1) (Da := adr1) hok
 have huw := udp_word (Sa := adr1) (Da := adr1) hok
 refine enter Try.func9 rfl Try.ntmps9 (k := 0) rfl (by decide) (fun a0 hr hargs => ?_)
 clear hargs
 refine wp_seq ?_
 refine wp_reg 80 [[]] [?b1_0] mixed (by kernel_rfl) (by kernel_rfl) hr ?t1 ?o1 ?_
 case o1 =>
  refine oc0 (fun A W hx hf => ?_) ?_
  exact ok_assignc
  exact OpsOk.nil
 case t1 => exact inferInstance
 clear hr; intro a2 w2 x hr hd hs
 have e_w := x
 clear hd hs x
 refine exit_then ?_
 refine wp_seq ?_
 refine wp_reg 80 [[], [(10, some 0)]] [?b3_0, ?b3_0] mixed (by kernel_rfl) (by kernel_rfl) hr ?t3 ?o3 ?_
 case o3 =>
  refine oc0 (fun A W hx hf => ?_) ?_
  exact ok_ownBs [(.const (.int .u8 0)), (.const (.int .u8 1)), (.const (.int .u8 0)), (.const (.int .u8 2)), (.const (.int .u8 0)), (.const (.int .u8 8)), (.const (.int .u8 0)), (.const (.int .u8 0))] [_, _, _, _, _, _, _, _] Try.underlying22 size5 zero5 rfl rfl (by decide) hx.size (PartsOk.cons (show ByteIs 0 _ _ from rfl) (PartsOk.cons (show ByteIs 1 _ _ from rfl) (PartsOk.cons (show ByteIs 0 _ _ from rfl) (PartsOk.cons (show ByteIs 2 _ _ from rfl) (PartsOk.cons (show ByteIs 0 _ _ from rfl) (PartsOk.cons (show ByteIs 8 _ _ from rfl) (PartsOk.cons (show ByteIs 0 _ _ from rfl) (PartsOk.cons (show ByteIs 0 _ _ from rfl) (PartsOk.nil)))))))))
  refine oc0 (fun A W hx hf => ?_) ?_
  exact ok_assign (q0 ?b3_0 A W 10 hf)
  exact OpsOk.nil
 case t3 => exact inferInstance
 clear hr; intro a4 w4 x hr hd hs
 have z_w_w2 := e_w.size
 have s1 := fa ?b3_0 a4 w4 1 (hd 1 1 rfl)
 obtain ⟨g4_1, q4_1⟩ := OwnB.at s1; clear s1; have n4_1 := OwnBA.lt q4_1
 replace q4_1 := OwnBA.mono q4_1 e_w.size
 have s1 := q4_1; clear q4_1
 replace e_w := e_w.trans x
 clear hd hs x
 refine exit_then ?_
 refine wp_seq ?_
 refine wp_reg_pre (l := [_, _, _, _, _, _]) (rest := [_, _]) 80 [[(1, none)], [(12, some 0)], [(13, some 1)], [(11, some 2)], [(11, some 2)], []] [?b5_0, ?b5_1, ?b5_1, ?b5_3, ?b5_4, ?b5_5] (by kernel_rfl) (by kernel_rfl) hr ?t5 ?o5 ?_
 case o5 =>
  refine oc0 (fun A W hx hf => ?_) ?_
  exact ok_movE (a0 := a4) (r0 hf)
  refine oc0 (fun A W hx hf => ?_) ?_
  exact ok_call2 body10 (c_pRead (show Is (.int .i64 17) (A.eval (.const (.int .i64 17))) _ from rfl) (OwnBA.bs (p1 s1 hx (q0 ?b5_0 A W 12 hf))))
  refine oc0 (fun A W hx hf => ?_) ?_
  exact ok_move (q0 ?b5_1 A W 13 hf)
  refine oc0 (fun A W hx hf => ?_) ?_
  exact ok_ext0 (q0 ?b5_1 A W 11 hf)
  refine oc0 (fun A W hx hf => ?_) ?_
  exact ok_ext1 (q0 ?b5_1 A W 11 hf)
  refine oc0 (fun A W hx hf => ?_) ?_
  exact ok_allocS [(portS port0).flatten] [5] zerov25 (by rfl) (by rfl) hx.size
  exact OpsOk.nil
 case t5 => exact inferInstance
 clear hr; intro a6 w6 x hr hd hs
 have z_w_w4 := e_w.size
 have l6_1 := OwnBA.lt s1
 revert s1; refine kp1 hs rfl ?_; intro s1
 have s14 := fa ?b5_3 a6 w6 14 (hd 3 14 rfl)
 have s15 := fa ?b5_4 a6 w6 15 (hd 4 15 rfl)
 have s2 := fa ?b5_5 a6 w6 2 (hd 5 2 rfl)
 obtain ⟨g6_2, q6_2⟩ := PxN.at s2; clear s2; have n6_2 := PxS.lt q6_2
 replace q6_2 := PxS.mono q6_2 e_w.size
 have s2 := q6_2; clear q6_2
 replace e_w := e_w.trans x
 have e_w4 := x
 clear hd hs x
 have z7 := PxS.lt s2
 have l7 := (show (g6_2 = 0 ∨ w.heap.size < g6_2) ∧ True from ⟨by omega, trivial⟩)
 have l7_1 := OwnBA.lt (later e_w4 s1)
 refine wl_storeSn hr size25 s2 s14 (by exact port_len _) (by exact port_one) rfl ?_; clear hr; intro a7 w7 hc hu hr hs
 have hb : Below w.heap.size w6 w7 := hc.below e_w.size l7.1
 revert s1 s15 s2; refine kp3 hs rfl ?_; intro s1 s15 s2
 clear s14
 replace s1 := OwnBA.other (later e_w4 s1) hc (by omega)
 replace s2 := hu _ _ _ s2
 try simp only [List.set_cons_zero, List.set_cons_succ] at s2
 replace e_w := e_w.below (Nat.le_refl _) hb
 clear e_w4
 replace s15 := anyw (w2 := w7) s15
 clear hu hs hc hb
 refine wl_op hr (ok_assign s15) inferInstance ?_; clear hr; intro a8 w8 x hr hd hs
 revert s1 s2; refine kp2 hs rfl ?_; intro s1 s2
 clear s15
 have s3 := hd 3 rfl (by decide)
 replace e_w := e_w.trans x
 have e_w7 := x
 clear hd hs x
 refine wpList_nil ?_
 refine exit_then ?_
 refine wp_seq ?_
 refine wp_reg_pre (l := [_, _, _, _, _, _]) (rest := [_, _]) 80 [[(1, none)], [(17, some 0)], [(18, some 1)], [(16, some 2)], [(16, some 2)], []] [?b9_0, ?b9_1, ?b9_1, ?b9_3, ?b9_4, ?b9_5] (by kernel_rfl) (by kernel_rfl) hr ?t9 ?o9 ?_
 case o9 =>
  refine oc0 (fun A W hx hf => ?_) ?_
  exact ok_movE (a0 := a8) (r0 hf)
  refine oc0 (fun A W hx hf => ?_) ?_
  exact ok_call2 body10 (c_pRead (show Is (.int .i64 6) (A.eval (.const (.int .i64 6))) _ from rfl) (OwnBA.bs (p2 s1 e_w7 hx (q0 ?b9_0 A W 17 hf))))
  refine oc0 (fun A W hx hf => ?_) ?_
  exact ok_move (q0 ?b9_1 A W 18 hf)
  refine oc0 (fun A W hx hf => ?_) ?_
  exact ok_ext0 (q0 ?b9_1 A W 16 hf)
  refine oc0 (fun A W hx hf => ?_) ?_
  exact ok_ext1 (q0 ?b9_1 A W 16 hf)
  refine oc0 (fun A W hx hf => ?_) ?_
  exact ok_allocS [(portS port0).flatten] [5] zerov25 (by rfl) (by rfl) hx.size
  exact OpsOk.nil
 case t9 => exact inferInstance
 clear hr; intro a10 w10 x hr hd hs
 have z_w_w8 := e_w.size
 have z_w7_w8 := e_w7.size
 have l10_1 := OwnBA.lt (later e_w7 s1)
 have l10_2 := PxS.lt (later e_w7 s2)
 revert s1 s2 s3; refine kp3 hs rfl ?_; intro s1 s2 s3
 have s19 := fa ?b9_3 a10 w10 19 (hd 3 19 rfl)
 have s20 := fa ?b9_4 a10 w10 20 (hd 4 20 rfl)
 have s4 := fa ?b9_5 a10 w10 4 (hd 5 4 rfl)
 obtain ⟨g10_4, q10_4⟩ := PxN.at s4; clear s4; have n10_4 := PxS.lt q10_4
 replace q10_4 := PxS.mono q10_4 e_w.size
 have s4 := q10_4; clear q10_4
 replace e_w := e_w.trans x
 replace e_w7 := e_w7.trans x
 have e_w8 := x
 clear hd hs x
 have z11 := PxS.lt s4
 have l11 := (show (g10_4 = 0 ∨ w.heap.size < g10_4) ∧ True from ⟨by omega, trivial⟩)
 have l11_1 := OwnBA.lt (later e_w7 s1)
 have l11_2 := PxS.lt (later e_w7 s2)
 refine wl_storeSn hr size25 s4 s19 (by exact port_len _) (by exact port_one) rfl ?_; clear hr; intro a11 w11 hc hu hr hs
 have hb : Below w.heap.size w10 w11 := hc.below e_w.size l11.1
 revert s1 s2 s3 s20; refine kp4 hs rfl ?_; intro s1 s2 s3 s20
 clear s19 s4
 replace s1 := OwnBA.other (later e_w7 s1) hc (by omega)
 replace s2 := PxS.other (later e_w7 s2) hc (by omega)
 replace e_w := e_w.below (Nat.le_refl _) hb
 clear e_w7
 clear e_w8
 replace s3 := anyw (w2 := w11) s3
 replace s20 := anyw (w2 := w11) s20
 clear hu hs hc hb
 refine wl_op hr (ok_assign s20) inferInstance ?_; clear hr; intro a12 w12 x hr hd hs
 revert s1 s2 s3; refine kp3 hs rfl ?_; intro s1 s2 s3
 clear s20
 have s5 := hd 5 rfl (by decide)
 replace e_w := e_w.trans x
 have e_w11 := x
 clear hd hs x
 refine wpList_nil ?_
 refine exit_then ?_
 refine wp_seq ?_
 refine wp_reg_pre (l := [_, _, _, _, _, _]) (rest := [_, _]) 80 [[(1, none)], [(22, some 0)], [(23, some 1)], [(21, some 2)], [(21, some 2)], []] [?b13_0, ?b13_1, ?b13_1, ?b13_3, ?b13_4, ?b13_5] (by kernel_rfl) (by kernel_rfl) hr ?t13 ?o13 ?_
 case o13 =>
  refine oc0 (fun A W hx hf => ?_) ?_
  exact ok_movE (a0 := a12) (r0 hf)
  refine oc0 (fun A W hx hf => ?_) ?_
  exact ok_call2 body10 (c_pRead (show Is (.int .i64 1) (A.eval (.const (.int .i64 1))) _ from rfl) (OwnBA.bs (p2 s1 e_w11 hx (q0 ?b13_0 A W 22 hf))))
  refine oc0 (fun A W hx hf => ?_) ?_
  exact ok_move (q0 ?b13_1 A W 23 hf)
  refine oc0 (fun A W hx hf => ?_) ?_
  exact ok_ext0 (q0 ?b13_1 A W 21 hf)
  refine oc0 (fun A W hx hf => ?_) ?_
  exact ok_ext1 (q0 ?b13_1 A W 21 hf)
  refine oc0 (fun A W hx hf => ?_) ?_
  exact ok_allocS [(portS port0).flatten] [5] zerov25 (by rfl) (by rfl) hx.size
  exact OpsOk.nil
 case t13 => exact inferInstance
 clear hr; intro a14 w14 x hr hd hs
 have z_w_w12 := e_w.size
 have z_w11_w12 := e_w11.size
 have l14_1 := OwnBA.lt (later e_w11 s1)
 have l14_2 := PxS.lt (later e_w11 s2)
 revert s1 s2 s3 s5; refine kp4 hs rfl ?_; intro s1 s2 s3 s5
 have s24 := fa ?b13_3 a14 w14 24 (hd 3 24 rfl)
 have s25 := fa ?b13_4 a14 w14 25 (hd 4 25 rfl)
 have s6 := fa ?b13_5 a14 w14 6 (hd 5 6 rfl)
 obtain ⟨g14_6, q14_6⟩ := PxN.at s6; clear s6; have n14_6 := PxS.lt q14_6
 replace q14_6 := PxS.mono q14_6 e_w.size
 have s6 := q14_6; clear q14_6
 replace e_w := e_w.trans x
 replace e_w11 := e_w11.trans x
 have e_w12 := x
 clear hd hs x
 have z15 := PxS.lt s6
 have l15 := (show (g14_6 = 0 ∨ w.heap.size < g14_6) ∧ True from ⟨by omega, trivial⟩)
 have l15_1 := OwnBA.lt (later e_w11 s1)
 have l15_2 := PxS.lt (later e_w11 s2)
 refine wl_storeSn hr size25 s6 s24 (by exact port_len _) (by exact port_one) rfl ?_; clear hr; intro a15 w15 hc hu hr hs
 have hb : Below w.heap.size w14 w15 := hc.below e_w.size l15.1
 revert s1 s2 s3 s5 s25; refine kp5 hs rfl ?_; intro s1 s2 s3 s5 s25
 clear s24 s6
 replace s1 := OwnBA.other (later e_w11 s1) hc (by omega)
 replace s2 := PxS.other (later e_w11 s2) hc (by omega)
 replace e_w := e_w.below (Nat.le_refl _) hb
 clear e_w11
 clear e_w12
 replace s3 := anyw (w2 := w15) s3
 replace s5 := anyw (w2 := w15) s5
 replace s25 := anyw (w2 := w15) s25
 clear hu hs hc hb
 refine wl_op hr (ok_assign s25) inferInstance ?_; clear hr; intro a16 w16 x hr hd hs
 revert s1 s2 s3 s5; refine kp4 hs rfl ?_; intro s1 s2 s3 s5
 clear s25
 have s7 := hd 7 rfl (by decide)
 replace e_w := e_w.trans x
 have e_w15 := x
 clear hd hs x
 refine wpList_nil ?_
 refine exit_then ?_
 refine wp_seq ?_
 refine wp_reg_pre (l := [_, _, _]) (rest := [_]) 80 [[], [(26, some 0)], []] [?b17_0, ?b17_1, ?b17_2] (by kernel_rfl) (by kernel_rfl) hr ?t17 ?o17 ?_
 case o17 =>
  refine oc0 (fun A W hx hf => ?_) ?_
  exact ok_buildArr [1, 2, 3, 4, 0, 0, 0, 0, 0, 0, 0, 0, 0, 0, 0, 0] [(0, (.int .u8 1)), (1, (.int .u8 2)), (2, (.int .u8 3)), (3, (.int .u8 4))] rfl (by kernel_rfl)
  refine oc0 (fun A W hx hf => ?_) ?_
  exact ok_buildS [(1, (.tmp 26))] [(1, _)] lay35 rfl (PartsC.agg (q0 ?b17_0 A W 26 hf) (PartsC.nil)) (by first | rfl | simp [adrCells, *])
  refine oc0 (fun A W hx hf => ?_) ?_
  exact ok_allocS [adrCells adr0] [17] zerov35 (by rfl) (by rfl) hx.size
  exact OpsOk.nil
 case t17 => exact inferInstance
 clear hr; intro a18 w18 x hr hd hs
 have z_w_w16 := e_w.size
 have z_w15_w16 := e_w15.size
 have l18_1 := OwnBA.lt (later e_w15 s1)
 have l18_2 := PxS.lt (later e_w15 s2)
 revert s1 s2 s3 s5 s7; refine kp5 hs rfl ?_; intro s1 s2 s3 s5 s7
 have s27 := fa ?b17_1 a18 w18 27 (hd 1 27 rfl)
 have s8 := fa ?b17_2 a18 w18 8 (hd 2 8 rfl)
 obtain ⟨g18_8, q18_8⟩ := PxN.at s8; clear s8; have n18_8 := PxS.lt q18_8
 replace q18_8 := PxS.mono q18_8 e_w.size
 have s8 := q18_8; clear q18_8
 replace e_w := e_w.trans x
 replace e_w15 := e_w15.trans x
 have e_w16 := x
 clear hd hs x
 have z19 := PxS.lt s8
 have l19 := (show (g18_8 = 0 ∨ w.heap.size < g18_8) ∧ True from ⟨by omega, trivial⟩)
 have l19_1 := OwnBA.lt (later e_w15 s1)
 have l19_2 := PxS.lt (later e_w15 s2)
 refine wl_storeSn hr size35 s8 (show Is (AdrV adr1) _ _ from s27) (by rfl) (by decide) rfl ?_; clear hr; intro a19 w19 hc hu hr hs
 have hb : Below w.heap.size w18 w19 := hc.below e_w.size l19.1
 revert s1 s2 s3 s5 s7 s8; refine kp6 hs rfl ?_; intro s1 s2 s3 s5 s7 s8
 clear s27
 replace s1 := OwnBA.other (later e_w15 s1) hc (by omega)
 replace s2 := PxS.other (later e_w15 s2) hc (by omega)
 replace s8 := hu _ _ _ s8
 try simp only [List.set_cons_zero, List.set_cons_succ] at s8
 replace e_w := e_w.below (Nat.le_refl _) hb
 clear e_w15
 clear e_w16
 replace s3 := anyw (w2 := w19) s3
 replace s5 := anyw (w2 := w19) s5
 replace s7 := anyw (w2 := w19) s7
 clear hu hs hc hb
 refine wpList_nil ?_
 refine exit_then ?_
 refine wp_seq ?_
 refine wp_reg 80 [[(8, none)], [(8, none)], [(1, none)], [(28, some 0), (29, some 1), (30, some 2)], [(31, some 3)]] [?b20_0, ?b20_1, ?b20_2, ?b20_3, ?b20_3] mixed (by kernel_rfl) (by kernel_rfl) hr ?t20 ?o20 ?_
 case o20 =>
  refine oc0 (fun A W hx hf => ?_) ?_
  exact ok_loadSeg Try.underlying35 rfl size35 (o1 s8 hx (r0 hf)) rfl rfl
  refine oc0 (fun A W hx hf => ?_) ?_
  exact ok_loadSeg Try.underlying35 rfl size35 (o1 s8 hx (r0 hf)) rfl rfl
  refine oc0 (fun A W hx hf => ?_) ?_
  exact ok_movE (a0 := a19) (r0 hf)
  refine oc0 (fun A W hx hf => ?_) ?_
  exact ok_call4 body19 (c_pFill (show Is (AdrV adr1) _ _ from (q0 ?b20_0 A W 28 hf)) (show Is (AdrV adr1) _ _ from (q1 ?b20_1 A W 29 hf)) (show Is (.int .i64 17) (A.eval (.const (.int .i64 17))) _ from rfl) (OwnBA.bs (p1 s1 hx (q2 ?b20_2 A W 30 hf))) (by exact hA) (by exact hA) (by exact hok) (by decide) hx.size)
  refine oc0 (fun A W hx hf => ?_) ?_
  exact ok_assign (q0 ?b20_3 A W 31 hf)
  exact OpsOk.nil
 case t20 => exact inferInstance
 clear hr; intro a21 w21 x hr hd hs
 have z_w_w19 := e_w.size
 have l21_1 := OwnBA.lt s1
 have l21_2 := PxS.lt s2
 have l21_8 := PxS.lt s8
 revert s1 s2 s8 s3 s5 s7; refine kp6 hs rfl ?_; intro s1 s2 s8 s3 s5 s7
 have s9 := fa ?b20_3 a21 w21 9 (hd 4 9 rfl)
 obtain ⟨g21_9, q21_9⟩ := OwnB.at s9; clear s9; have n21_9 := OwnBA.lt q21_9
 replace q21_9 := OwnBA.mono q21_9 e_w.size
 have s9 := q21_9; clear q21_9
 replace e_w := e_w.trans x
 have e_w19 := x
 clear hd hs x
 refine exit_then ?_
 refine wp_seq ?_
 refine wp_reg 80 [[(3, none)], [(32, some 0)], [(33, some 1)], [(2, none), (34, some 2)], [(34, some 2)], [(35, some 3), (36, some 4), (34, some 2)], [(34, some 2), (37, some 5)], [(38, some 6)], [(5, none), (39, some 7)], [(40, some 8), (39, some 7)], [(39, some 7), (41, some 9)], [(42, some 10)], [(7, none), (43, some 11)], [(44, some 12), (43, some 11)], [(43, some 11), (45, some 13)], [(46, some 14)], [(8, none), (47, some 15)], [(8, none), (47, some 15)], [(1, none), (47, some 15)], [(48, some 16), (49, some 17), (50, some 18), (47, some 15)], [(47, some 15), (51, some 19)], [(52, some 20)], [(9, none), (53, some 21)], [(54, some 22), (53, some 21)], [(55, some 23), (53, some 21)], [(53, some 21), (56, some 24)], [(57, some 25)], [(8, none), (58, some 26)], [(8, none), (58, some 26)], [(9, none), (58, some 26)], [(59, some 27), (60, some 28), (61, some 29), (58, some 26)], [(58, some 26), (62, some 30)], [(63, some 31)], [(9, none), (64, some 32)], [(65, some 33), (64, some 32)], [(66, some 34), (64, some 32)], [(67, some 35), (64, some 32)], [(68, some 36), (64, some 32)], [(9, none), (69, some 37)], [(70, some 38), (69, some 37)], [(71, some 39), (69, some 37)], [(72, some 40), (69, some 37)], [(69, some 37), (73, some 41), (64, some 32)], [(64, some 32), (74, some 42)], [(75, some 43)], [(76, some 44)], [(77, some 45), (76, some 44)], [(76, some 44), (78, some 46)], [(79, some 47)]] [?b22_0, ?b22_1, ?b22_1, ?b22_3, ?b22_4, ?b22_5, ?b22_6, ?b22_6, ?b22_8, ?b22_9, ?b22_10, ?b22_10, ?b22_12, ?b22_13, ?b22_14, ?b22_14, ?b22_16, ?b22_17, ?b22_18, ?b22_19, ?b22_20, ?b22_20, ?b22_22, ?b22_23, ?b22_24, ?b22_25, ?b22_25, ?b22_27, ?b22_28, ?b22_29, ?b22_30, ?b22_31, ?b22_31, ?b22_33, ?b22_34, ?b22_35, ?b22_36, ?b22_36, ?b22_38, ?b22_39, ?b22_40, ?b22_41, ?b22_42, ?b22_43, ?b22_43, ?b22_45, ?b22_46, ?b22_47, ?b22_47] mixed (by kernel_rfl) (by kernel_rfl) hr ?t22 ?o22 ?_
 case o22 =>
  refine oc0 (fun A W hx hf => ?_) ?_
  exact ok_movE (a0 := a21) (r0 hf)
  refine oc0 (fun A W hx hf => ?_) ?_
  exact ok_eql (p2 s3 e_w19 hx (q0 ?b22_0 A W 32 hf)) (ec A (.int .i64 0))
  refine oc0 (fun A W hx hf => ?_) ?_
  exact ok_move (q0 ?b22_1 A W 33 hf)
  refine ocg 34 ?_ (fun A W hx hf => ?_) ?_
  rfl
  exact gd_t (q1 ?b22_1 A W 34 hf) (fun hc => ok_loadSeg Try.underlying25 rfl size25 (o2 s2 e_w19 hx (r0 hf)) rfl rfl)
  refine ocg 34 ?_ (fun A W hx hf => ?_) ?_
  rfl
  exact gd_t (q0 ?b22_1 A W 34 hf) (fun hc => ok_buildS [(0, (.const (.int .i64 1))), (1, (.const (.int .i64 2))), (3, (.const (.int .i64 8))), (4, (.const (.int .i64 8)))] [(0, _), (1, _), (3, _), (4, _)] lay25 rfl (PartsC.one (ec A (.int .i64 1)) rfl (PartsC.one (ec A (.int .i64 2)) rfl (PartsC.one (ec A (.int .i64 8)) rfl (PartsC.one (ec A (.int .i64 8)) rfl (PartsC.nil))))) (by first | rfl | simp [adrCells, *]))
  refine ocg 34 ?_ (fun A W hx hf => ?_) ?_
  rfl
  exact gd_t (q2 ?b22_1 A W 34 hf) (fun hc => ok_eqself eqg25 eq_port (G.get (q0 ?b22_3 A W 35 hf) hc) (Is.conv (G.get (q1 ?b22_4 A W 36 hf) hc) (show _ = PortV (portRead 17 [0, 1, 0, 2, 0, 8, 0, 0]).1 from by rw [hpr]; rfl)))
  refine oc0 (fun A W hx hf => ?_) ?_
  exact ok_and (q0 ?b22_1 A W 34 hf) (q1 ?b22_5 A W 37 hf)
  refine oc0 (fun A W hx hf => ?_) ?_
  exact ok_move (q0 ?b22_6 A W 38 hf)
  refine ocg 39 ?_ (fun A W hx hf => ?_) ?_
  rfl
  exact gd_t (q1 ?b22_6 A W 39 hf) (fun hc => ok_movE (a0 := a21) (r0 hf))
  refine ocg 39 ?_ (fun A W hx hf => ?_) ?_
  rfl
  exact gd_t (q1 ?b22_6 A W 39 hf) (fun hc => ok_eql (p2 s5 e_w19 hx (G.get (q0 ?b22_8 A W 40 hf) hc)) (ec A (.int .i64 2)))
  refine oc0 (fun A W hx hf => ?_) ?_
  exact ok_and (q0 ?b22_6 A W 39 hf) (q1 ?b22_9 A W 41 hf)
  refine oc0 (fun A W hx hf => ?_) ?_
  exact ok_move (q0 ?b22_10 A W 42 hf)
  refine ocg 43 ?_ (fun A W hx hf => ?_) ?_
  rfl
  exact gd_t (q1 ?b22_10 A W 43 hf) (fun hc => ok_movE (a0 := a21) (r0 hf))
  refine ocg 43 ?_ (fun A W hx hf => ?_) ?_
  rfl
  exact gd_t (q1 ?b22_10 A W 43 hf) (fun hc => ok_eql (p2 s7 e_w19 hx (G.get (q0 ?b22_12 A W 44 hf) hc)) (ec A (.int .i64 5)))
  refine oc0 (fun A W hx hf => ?_) ?_
  exact ok_and (q0 ?b22_10 A W 43 hf) (q1 ?b22_13 A W 45 hf)
  refine oc0 (fun A W hx hf => ?_) ?_
  exact ok_move (q0 ?b22_14 A W 46 hf)
  refine ocg 47 ?_ (fun A W hx hf => ?_) ?_
  rfl
  exact gd_t (q1 ?b22_14 A W 47 hf) (fun hc => ok_loadSeg Try.underlying35 rfl size35 (o2 s8 e_w19 hx (r0 hf)) rfl rfl)
  refine ocg 47 ?_ (fun A W hx hf => ?_) ?_
  rfl
  exact gd_t (q1 ?b22_14 A W 47 hf) (fun hc => ok_loadSeg Try.underlying35 rfl size35 (o2 s8 e_w19 hx (r0 hf)) rfl rfl)
  refine ocg 47 ?_ (fun A W hx hf => ?_) ?_
  rfl
  exact gd_t (q1 ?b22_14 A W 47 hf) (fun hc => ok_movE (a0 := a21) (r0 hf))
  refine ocg 47 ?_ (fun A W hx hf => ?_) ?_
  rfl
  exact gd_t (q3 ?b22_14 A W 47 hf) (fun hc => ok_call4 body15 (c_pRight (show Is (AdrV adr1) _ _ from (G.get (q0 ?b22_16 A W 48 hf) hc)) (show Is (AdrV adr1) _ _ from (G.get (q1 ?b22_17 A W 49 hf) hc)) (show Is (.int .i64 17) (A.eval (.const (.int .i64 17))) _ from rfl) (OwnBA.bs (p2 s1 e_w19 hx (G.get (q2 ?b22_18 A W 50 hf) hc))) (by exact hA) (by exact hA) (by exact hok) (by decide)))
  refine oc0 (fun A W hx hf => ?_) ?_
  exact ok_and (q0 ?b22_14 A W 47 hf) (q1 ?b22_19 A W 51 hf)
  refine oc0 (fun A W hx hf => ?_) ?_
  exact ok_move (q0 ?b22_20 A W 52 hf)
  refine ocg 53 ?_ (fun A W hx hf => ?_) ?_
  rfl
  exact gd_t (q1 ?b22_20 A W 53 hf) (fun hc => ok_movE (a0 := a21) (r0 hf))
  refine ocg 53 ?_ (fun A W hx hf => ?_) ?_
  rfl
  exact gd_t (q1 ?b22_20 A W 53 hf) (fun hc => ok_len_bs Try.underlying22 (OwnBA.bs (p1 s9 hx (G.get (q0 ?b22_22 A W 54 hf) hc))))
  refine ocg 53 ?_ (fun A W hx hf => ?_) ?_
  rfl
  exact gd_t (q1 ?b22_20 A W 53 hf) (fun hc => ok_eql (G.get (q0 ?b22_23 A W 55 hf) hc) (ec A (.int .i64 8)))
  refine oc0 (fun A W hx hf => ?_) ?_
  exact ok_and (q0 ?b22_20 A W 53 hf) (q1 ?b22_24 A W 56 hf)
  refine oc0 (fun A W hx hf => ?_) ?_
  exact ok_move (q0 ?b22_25 A W 57 hf)
  refine ocg 58 ?_ (fun A W hx hf => ?_) ?_
  rfl
  exact gd_t (q1 ?b22_25 A W 58 hf) (fun hc => ok_loadSeg Try.underlying35 rfl size35 (o2 s8 e_w19 hx (r0 hf)) rfl rfl)
  refine ocg 58 ?_ (fun A W hx hf => ?_) ?_
  rfl
  exact gd_t (q1 ?b22_25 A W 58 hf) (fun hc => ok_loadSeg Try.underlying35 rfl size35 (o2 s8 e_w19 hx (r0 hf)) rfl rfl)
  refine ocg 58 ?_ (fun A W hx hf => ?_) ?_
  rfl
  exact gd_t (q1 ?b22_25 A W 58 hf) (fun hc => ok_movE (a0 := a21) (r0 hf))
  refine ocg 58 ?_ (fun A W hx hf => ?_) ?_
  rfl
  exact gd_t (q3 ?b22_25 A W 58 hf) (fun hc => ok_call4 body15 (c_pRight (show Is (AdrV adr1) _ _ from (G.get (q0 ?b22_27 A W 59 hf) hc)) (show Is (AdrV adr1) _ _ from (G.get (q1 ?b22_28 A W 60 hf) hc)) (show Is (.int .i64 17) (A.eval (.const (.int .i64 17))) _ from rfl) (OwnBA.bs (p1 s9 hx (G.get (q2 ?b22_29 A W 61 hf) hc))) (by exact hA) (by exact hA) (by rw [hfr]; exact hok) (by rw [hfl]; decide)))
  refine oc0 (fun A W hx hf => ?_) ?_
  exact ok_and (q0 ?b22_25 A W 58 hf) (q1 ?b22_30 A W 62 hf)
  refine oc0 (fun A W hx hf => ?_) ?_
  exact ok_move (q0 ?b22_31 A W 63 hf)
  refine ocg 64 ?_ (fun A W hx hf => ?_) ?_
  rfl
  exact gd_t (q1 ?b22_31 A W 64 hf) (fun hc => ok_movE (a0 := a21) (r0 hf))
  refine ocg 64 ?_ (fun A W hx hf => ?_) ?_
  rfl
  exact gd_t (q1 ?b22_31 A W 64 hf) (fun hc => ok_index_bs (6) Try.underlying22 size5 (OwnBA.bs (p1 s9 hx (G.get (q0 ?b22_33 A W 65 hf) hc))) (ec A (.int .i64 6)) (by rw [hfl]; decide))
  refine ocg 64 ?_ (fun A W hx hf => ?_) ?_
  rfl
  exact gd_t (q1 ?b22_31 A W 64 hf) (fun hc => ok_loadp Try.underlying5 rfl (G.get (q0 ?b22_34 A W 66 hf) hc))
  refine ocg 64 ?_ (fun A W hx hf => ?_) ?_
  rfl
  exact gd_t (q1 ?b22_31 A W 64 hf) (fun hc => ok_neq (G.get (q0 ?b22_35 A W 67 hf) hc) (ec A (.int .u8 0)))
  refine ocg 64 ?_ (fun A W hx hf => ?_) ?_
  rfl
  exact gd_t (q1 ?b22_31 A W 64 hf) (fun hc => ok_move (G.get (q0 ?b22_36 A W 68 hf) hc))
  refine ocg 69 ?_ (fun A W hx hf => ?_) ?_
  rfl
  exact gd_gf (q1 ?b22_36 A W 69 hf) (fun hc => ok_movE (a0 := a21) (r0 hf))
  refine ocg 69 ?_ (fun A W hx hf => ?_) ?_
  rfl
  exact gd_gf (q1 ?b22_36 A W 69 hf) (fun hc => ok_index_bs (7) Try.underlying22 size5 (OwnBA.bs (p1 s9 hx (G.get (q0 ?b22_38 A W 70 hf) hc))) (ec A (.int .i64 7)) (by rw [hfl]; decide))
  refine ocg 69 ?_ (fun A W hx hf => ?_) ?_
  rfl
  exact gd_gf (q1 ?b22_36 A W 69 hf) (fun hc => ok_loadp Try.underlying5 rfl (G.get (q0 ?b22_39 A W 71 hf) hc))
  refine ocg 69 ?_ (fun A W hx hf => ?_) ?_
  rfl
  exact gd_gf (q1 ?b22_36 A W 69 hf) (fun hc => ok_neq (G.get (q0 ?b22_40 A W 72 hf) hc) (ec A (.int .u8 0)))
  refine ocg 64 ?_ (fun A W hx hf => ?_) ?_
  rfl
  exact gd_t (q2 ?b22_31 A W 64 hf) (fun hc => ok_or (G.get (q0 ?b22_36 A W 69 hf) hc) (G.strip hc (q1 ?b22_41 A W 73 hf)))
  refine oc0 (fun A W hx hf => ?_) ?_
  exact ok_and (q0 ?b22_31 A W 64 hf) (q1 ?b22_42 A W 74 hf)
  refine oc0 (fun A W hx hf => ?_) ?_
  exact ok_move (q0 ?b22_43 A W 75 hf)
  refine ocg 76 ?_ (fun A W hx hf => ?_) ?_
  rfl
  exact gd_t (q0 ?b22_43 A W 76 hf) (fun hc => ok_call1 body12 (c_pPlace (show Is (.int .i64 6) (A.eval (.const (.int .i64 6))) _ from rfl)))
  refine ocg 76 ?_ (fun A W hx hf => ?_) ?_
  rfl
  exact gd_t (q1 ?b22_43 A W 76 hf) (fun hc => ok_eql (G.get (q0 ?b22_45 A W 77 hf) hc) (ec A (.int .i64 16)))
  refine oc0 (fun A W hx hf => ?_) ?_
  exact ok_and (q0 ?b22_43 A W 76 hf) (q1 ?b22_46 A W 78 hf)
  refine oc0 (fun A W hx hf => ?_) ?_
  exact ok_assign (q0 ?b22_47 A W 79 hf)
  exact OpsOk.nil
 case t22 => repeat (first | exact stb_nil | refine stb_cons ?_)
 clear hr; intro a23 w23 x hr hd hs
 clear s1 s2 s8 s3 s5 s7 s9
 have s0 := fa ?b22_47 a23 w23 0 (hd 48 0 rfl)
 replace e_w := e_w.trans x
 clear e_w19
 clear hd hs x
 refine exit_then ?_
 refine wp_ret ?_
 refine ret_tmp Try.results9 hr e_w ?_
 exact Is.bool s0 (awake10_end hr1 hfl huw _ _)

end Go.Proofs.Yteccaejdgefdpaa
