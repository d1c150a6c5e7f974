import Derived.Test.YteccaejdgefdpaaA10
import Derived.Test.YteccaejdgefdpaaU10
namespace Go.Proofs.Yteccaejdgefdpaa
open Go.RowKit
set_option linter.unusedVariables false
set_option maxRecDepth 4000
set_option maxHeartbeats 1000000 in
theorem law_PortFlags {x0 x1 x2 : Value} {w : World} {l : List UInt8} {x y : UInt8} (h0 : (Bs l) x0 w) (h1 : (ByteIs x) x1 w) (h2 : (ByteIs y) x2 w)  :
    Calls Try.prog 7 #[x0, x1, x2] w (Ret (Is (.bool true)) w) := by
 have hlen := Bs.len_le h0
 have bx := byte_bd x
 have bb := byte_bd y
 obtain ⟨e, he⟩ : ∃ e : Int, e = (y.toNat : Int) % 16 := ⟨_, rfl⟩
 have he5 : 0 ≤ e ∧ e ≤ 15 := by omega
 refine enter Try.func7 rfl Try.ntmps7 (k := 3) rfl (by decide) (fun a0 hr hargs => ?_)
 have s0 := sarg h0 (hargs 0 (by decide))
 have s1 := sarg h1 (hargs 1 (by decide))
 have s2 := sarg h2 (hargs 2 (by decide))
 clear hargs
 refine wp_seq ?_
 refine wp_reg 103 [[]] [?b1_0] mixed (by kernel_rfl) (by kernel_rfl) hr ?t1 ?o1 ?_
 case o1 =>
  refine oc0 (fun A W hx hf => ?_) ?_
  exact ok_assignc
  exact OpsOk.nil
 case t1 => exact inferInstance
 clear hr; intro a2 w2 x hr hd hs
 revert s0 s1 s2; refine kp3 hs rfl ?_; intro s0 s1 s2
 have e_w := x
 clear hd hs x
 refine exit_then ?_
 refine wp_seq ?_
 refine wp_seq ?_
 refine wp_reg 103 [[], [(11, some 0)], [(12, some 1)], [(0, none), (13, some 2)], [(14, some 3), (13, some 2)], [(15, some 4), (13, some 2)], [(13, some 2), (16, some 5)], [(17, some 6)], [(0, none), (18, some 7)], [(19, some 8), (18, some 7)], [(20, some 9), (18, some 7)], [(18, some 7), (21, some 10)]] [?b3_0, ?b3_1, ?b3_1, ?b3_3, ?b3_4, ?b3_5, ?b3_6, ?b3_6, ?b3_8, ?b3_9, ?b3_10, ?b3_11] mixed (by kernel_rfl) (by kernel_rfl) hr ?t3 ?o3 ?_
 case o3 =>
  refine oc0 (fun A W hx hf => ?_) ?_
  exact ok_call0 body9 (c_awake10 )
  refine oc0 (fun A W hx hf => ?_) ?_
  exact ok_not (q0 ?b3_0 A W 11 hf)
  refine oc0 (fun A W hx hf => ?_) ?_
  exact ok_move (q0 ?b3_1 A W 12 hf)
  refine ocg 13 ?_ (fun A W hx hf => ?_) ?_
  rfl
  exact gd_f (q1 ?b3_1 A W 13 hf) (fun hc => ok_movE (a0 := a2) (r0 hf))
  refine ocg 13 ?_ (fun A W hx hf => ?_) ?_
  rfl
  exact gd_f (q1 ?b3_1 A W 13 hf) (fun hc => ok_len_bs Try.underlying22 (p2 s0 e_w hx (G.get (q0 ?b3_3 A W 14 hf) hc)))
  refine ocg 13 ?_ (fun A W hx hf => ?_) ?_
  rfl
  exact gd_f (q1 ?b3_1 A W 13 hf) (fun hc => ok_lss (G.get (q0 ?b3_4 A W 15 hf) hc) (ec A (.int .i64 20)))
  refine oc0 (fun A W hx hf => ?_) ?_
  exact ok_or (q0 ?b3_1 A W 13 hf) (q1 ?b3_5 A W 16 hf)
  refine oc0 (fun A W hx hf => ?_) ?_
  exact ok_move (q0 ?b3_6 A W 17 hf)
  refine ocg 18 ?_ (fun A W hx hf => ?_) ?_
  rfl
  exact gd_f (q1 ?b3_6 A W 18 hf) (fun hc => ok_movE (a0 := a2) (r0 hf))
  refine ocg 18 ?_ (fun A W hx hf => ?_) ?_
  rfl
  exact gd_f (q1 ?b3_6 A W 18 hf) (fun hc => ok_len_bs Try.underlying22 (p2 s0 e_w hx (G.get (q0 ?b3_8 A W 19 hf) hc)))
  refine ocg 18 ?_ (fun A W hx hf => ?_) ?_
  rfl
  exact gd_f (q1 ?b3_6 A W 18 hf) (fun hc => ok_gtr (G.get (q0 ?b3_9 A W 20 hf) hc) (ec A (.int .i64 1000)))
  refine oc0 (fun A W hx hf => ?_) ?_
  exact ok_or (q0 ?b3_6 A W 18 hf) (q1 ?b3_10 A W 21 hf)
  exact OpsOk.nil
 case t3 => exact inferInstance
 clear hr; intro a4 w4 x hr hd hs
 revert s0 s1 s2; refine kp3 hs rfl ?_; intro s0 s1 s2
 have s22 := fa ?b3_11 a4 w4 22 (hd 11 22 rfl)
 replace e_w := e_w.trans x
 clear hd hs x
 refine exit_then ?_
 refine wp_cond_split (show _ = _ from s22) (fun hg => ?_) (fun hg => ?_)
 · skip
   skip
   refine wp_seq ?_
   refine wp_reg 103 [[], [(23, some 0)]] [?b6_0, ?b6_0] mixed (by kernel_rfl) (by kernel_rfl) hr ?t6 ?o6 ?_
   case o6 =>
    refine oc0 (fun A W hx hf => ?_) ?_
    exact ok_call0 body9 (c_awake10 )
    refine oc0 (fun A W hx hf => ?_) ?_
    exact ok_assign (q0 ?b6_0 A W 23 hf)
    exact OpsOk.nil
   case t6 => exact inferInstance
   clear hr; intro a7 w7 x hr hd hs
   clear s0 s1 s2 s22
   have s6 := fa ?b6_0 a7 w7 6 (hd 1 6 rfl)
   replace e_w := e_w.trans x
   clear hd hs x
   refine exit_then ?_
   refine wp_ret ?_
   refine then_ret ?_
   refine ret_tmp Try.results7 hr e_w ?_
   first | with_reducible exact s6 | exact Is.bool s6 (by simp) | exact Is.bool s6 rfl
 · skip
   have hg2 : 20 ≤ l.length ∧ l.length ≤ 1000 := by simp at hg; omega
   have hfg := flag10 (x := x) hg2.1 he5
   have z0 := byte_bd (l[0]'(by omega))
   have z1 := byte_bd (l[1]'(by omega))
   have z2 := byte_bd (l[2]'(by omega))
   have z3 := byte_bd (l[3]'(by omega))
   refine wp_skip ?_
   refine exit_then ?_
   refine wp_seq ?_
   refine wp_reg_pre (l := [_, _]) (rest := [_, _]) 103 [[], [(0, none)]] [?b8_0, ?b8_1] (by kernel_rfl) (by kernel_rfl) hr ?t8 ?o8 ?_
   case o8 =>
    refine oc0 (fun A W hx hf => ?_) ?_
    exact ok_ownBs [] [] Try.underlying22 size5 zero5 rfl rfl (by decide) hx.size (PartsOk.nil)
    refine oc0 (fun A W hx hf => ?_) ?_
    exact ok_movE (a0 := a4) (r0 hf)
    exact OpsOk.nil
   case t8 => exact inferInstance
   clear hr; intro a9 w9 x hr hd hs
   have z_w_w4 := e_w.size
   have u25 := mv s0 (fa ?b8_1 a9 w9 25 (hd 1 25 rfl))
   revert s0 s1 s2; refine kp3 hs rfl ?_; intro s0 s1 s2
   clear s22
   have s25 := u25; clear u25
   have s24 := fa ?b8_0 a9 w9 24 (hd 0 24 rfl)
   obtain ⟨g9_24, q9_24⟩ := OwnB.at s24; clear s24; have n9_24 := OwnBA.lt q9_24
   replace q9_24 := OwnBA.mono q9_24 e_w.size
   have s24 := q9_24; clear q9_24
   replace e_w := e_w.trans x
   clear hd hs x
   have l10 := OwnBA.lt s24
   refine wl_append_bsA hr (by decide) Try.underlying22 info5 rfl s24 (later e_w s25) e_w.size (by simp; omega) ?_; clear hr; intro g10 a10 w10 hg10 hc hr hd hs
   have hb := hc.below e_w.size l10.1
   revert s0 s1 s2; refine kp3 hs rfl ?_; intro s0 s1 s2
   clear s25 s24
   have s26 := hd
   replace e_w := e_w.below (Nat.le_refl _) hb
   clear hd hs hb hc
   refine wl_op hr (ok_assign s26) inferInstance ?_; clear hr; intro a11 w11 x hr hd hs
   revert s0 s1 s2; refine kp3 hs rfl ?_; intro s0 s1 s2
   clear s26
   have s7 := hd 7 rfl (by decide)
   replace e_w := e_w.trans x
   clear hd hs x
   refine wpList_nil ?_
   replace s7 := OwnBA.cast s7 (show _ = l from by simp)
   refine exit_then ?_
   refine wp_seq ?_
   refine wp_reg 103 [[(2, none)], [(27, some 0)], [(28, some 1)], [(29, some 2)]] [?b12_0, ?b12_1, ?b12_2, ?b12_2] mixed (by kernel_rfl) (by kernel_rfl) hr ?t12 ?o12 ?_
   case o12 =>
    refine oc0 (fun A W hx hf => ?_) ?_
    exact ok_movE (a0 := a11) (r0 hf)
    refine oc0 (fun A W hx hf => ?_) ?_
    exact ok_rem (by decide) (p2 s2 e_w hx (q0 ?b12_0 A W 27 hf)) (ec A (.int .u8 16))
    refine oc0 (fun A W hx hf => ?_) ?_
    exact ok_convI Try.underlying5 Try.underlying3 (by rw [Int.tmod_eq_emod_of_nonneg (by omega)]; exact IntWalk.i64_in _ (by omega)) (q0 ?b12_1 A W 28 hf)
    refine oc0 (fun A W hx hf => ?_) ?_
    exact ok_assign (q0 ?b12_2 A W 29 hf)
    exact OpsOk.nil
   case t12 => exact inferInstance
   clear hr; intro a13 w13 x hr hd hs
   revert s0 s1 s7; refine kp3 hs rfl ?_; intro s0 s1 s7
   clear s2
   have s8 := fa ?b12_2 a13 w13 8 (hd 3 8 rfl)
   replace e_w := e_w.trans x
   have e_w11 := x
   clear hd hs x
   replace s8 := Is.int s8 (show _ = e from by rw [he, Int.tmod_eq_emod_of_nonneg (by omega)])
   refine exit_then ?_
   refine wp_seq ?_
   refine wp_reg_pre (l := [_, _, _, _, _, _, _, _, _, _]) (rest := [_]) 103 [[(7, none)], [(8, none)], [(31, some 1)], [(32, some 2)], [(7, none)], [(34, some 4)], [(35, some 5)], [(36, some 6)], [(33, some 3), (37, some 7)], [(30, some 0)]] [?b14_0, ?b14_1, ?b14_2, ?b14_3, ?b14_4, ?b14_5, ?b14_6, ?b14_7, ?b14_8, ?b14_9] (by kernel_rfl) (by kernel_rfl) hr ?t14 ?o14 ?_
   case o14 =>
    refine oc0 (fun A W hx hf => ?_) ?_
    exact ok_movE (a0 := a13) (r0 hf)
    refine oc0 (fun A W hx hf => ?_) ?_
    exact ok_movE (a0 := a13) (r0 hf)
    refine oc0 (fun A W hx hf => ?_) ?_
    exact ok_mulI (ec A (.int .i64 16)) (p1 s8 hx (q0 ?b14_1 A W 31 hf)) (by omega)
    refine oc0 (fun A W hx hf => ?_) ?_
    exact ok_conv8 Try.underlying3 Try.underlying5 (q0 ?b14_2 A W 32 hf)
    refine oc0 (fun A W hx hf => ?_) ?_
    exact ok_movE (a0 := a13) (r0 hf)
    refine oc0 (fun A W hx hf => ?_) ?_
    exact ok_index_bs (12) Try.underlying22 size5 (OwnBA.bs (p2 s7 e_w11 hx (q0 ?b14_4 A W 34 hf))) (ec A (.int .i64 12)) (by omega)
    refine oc0 (fun A W hx hf => ?_) ?_
    exact ok_loadp Try.underlying5 rfl (q0 ?b14_5 A W 35 hf)
    refine oc0 (fun A W hx hf => ?_) ?_
    exact ok_andm 4 (by decide) (q0 ?b14_6 A W 36 hf) (ec A (.int .u8 15)) (by decide) (by exact mask_u8 _)
    refine oc0 (fun A W hx hf => ?_) ?_
    exact ok_orb (q0 ?b14_3 A W 33 hf) (q1 ?b14_7 A W 37 hf)
    refine oc0 (fun A W hx hf => ?_) ?_
    exact ok_indexA (12) Try.underlying22 size5 (p2 s7 e_w11 hx (q0 ?b14_0 A W 30 hf)) (ec A (.int .i64 12)) (by omega)
    exact OpsOk.nil
   case t14 => exact inferInstance
   clear hr; intro a15 w15 x hr hd hs
   revert s0 s1 s7 s8; refine kp4 hs rfl ?_; intro s0 s1 s7 s8
   have s38 := fa ?b14_8 a15 w15 38 (hd 8 38 rfl)
   have s39 := fa ?b14_9 a15 w15 39 (hd 9 39 rfl)
   replace e_w := e_w.trans x
   replace e_w11 := e_w11.trans x
   have e_w13 := x
   clear hd hs x
   have z16 := EpA.lt s39
   have l16 := (show (g10 = 0 ∨ w.heap.size < g10) ∧ True from ⟨by omega, trivial⟩)
   refine wl_storeA hr size5 s39 (ByteIs.of s38 (by exact or16_bd he5)) ?_; clear hr; intro a16 w16 hc hu hr hs
   have hb : Below w.heap.size w15 w16 := hc.below e_w.size l16.1
   revert s0 s1 s7 s8; refine kp4 hs rfl ?_; intro s0 s1 s7 s8
   clear s38 s39
   replace s7 := hu _ _ _ (later e_w11 s7)
   replace e_w := e_w.below (Nat.le_refl _) hb
   clear e_w11
   clear e_w13
   replace s8 := anyw (w2 := w16) s8
   clear hu hs hc hb
   refine wpList_nil ?_
   refine exit_then ?_
   refine wp_seq ?_
   refine wp_reg_pre (l := [_, _, _]) (rest := [_]) 103 [[(7, none)], [(1, none)], [(40, some 0)]] [?b17_0, ?b17_1, ?b17_2] (by kernel_rfl) (by kernel_rfl) hr ?t17 ?o17 ?_
   case o17 =>
    refine oc0 (fun A W hx hf => ?_) ?_
    exact ok_movE (a0 := a16) (r0 hf)
    refine oc0 (fun A W hx hf => ?_) ?_
    exact ok_movE (a0 := a16) (r0 hf)
    refine oc0 (fun A W hx hf => ?_) ?_
    exact ok_indexA (13) Try.underlying22 size5 (p1 s7 hx (q0 ?b17_0 A W 40 hf)) (ec A (.int .i64 13)) (by simp; omega)
    exact OpsOk.nil
   case t17 => exact inferInstance
   clear hr; intro a18 w18 x hr hd hs
   have u41 := mv s1 (fa ?b17_1 a18 w18 41 (hd 1 41 rfl))
   revert s0 s1 s7 s8; refine kp4 hs rfl ?_; intro s0 s1 s7 s8
   have s41 := u41; clear u41
   have s42 := fa ?b17_2 a18 w18 42 (hd 2 42 rfl)
   replace e_w := e_w.trans x
   have e_w16 := x
   clear hd hs x
   have z19 := EpA.lt s42
   have l19 := (show (g10 = 0 ∨ w.heap.size < g10) ∧ True from ⟨by omega, trivial⟩)
   refine wl_storeA hr size5 s42 (later e_w s41) ?_; clear hr; intro a19 w19 hc hu hr hs
   have hb : Below w.heap.size w18 w19 := hc.below e_w.size l19.1
   revert s0 s1 s7 s8; refine kp4 hs rfl ?_; intro s0 s1 s7 s8
   clear s41 s42
   replace s7 := hu _ _ _ (later e_w16 s7)
   replace e_w := e_w.below (Nat.le_refl _) hb
   clear e_w16
   replace s8 := anyw (w2 := w19) s8
   clear hu hs hc hb
   refine wpList_nil ?_
   replace s7 := OwnBA.cast s7 (show _ = flagd l (b8 (bitOr .u8 ((b8 (16 * e)).toNat : Int) (((l[12]'(by omega)).toNat : Int) % ((2 ^ 4 : Nat) : Int)))) x from rfl)
   refine exit_then ?_
   refine wp_seq ?_
   refine wp_reg_pre (l := [_, _, _, _, _, _]) (rest := [_, _]) 103 [[(7, none)], [(44, some 0)], [(45, some 1)], [(43, some 2)], [(43, some 2)], []] [?b20_0, ?b20_1, ?b20_1, ?b20_3, ?b20_4, ?b20_5] (by kernel_rfl) (by kernel_rfl) hr ?t20 ?o20 ?_
   case o20 =>
    refine oc0 (fun A W hx hf => ?_) ?_
    exact ok_movE (a0 := a19) (r0 hf)
    refine oc0 (fun A W hx hf => ?_) ?_
    exact ok_call2 body10 (c_pRead (show Is (.int .i64 6) (A.eval (.const (.int .i64 6))) _ from rfl) (OwnBA.bs (p1 s7 hx (q0 ?b20_0 A W 44 hf))))
    refine oc0 (fun A W hx hf => ?_) ?_
    exact ok_move (q0 ?b20_1 A W 45 hf)
    refine oc0 (fun A W hx hf => ?_) ?_
    exact ok_ext0 (q0 ?b20_1 A W 43 hf)
    refine oc0 (fun A W hx hf => ?_) ?_
    exact ok_ext1 (q0 ?b20_1 A W 43 hf)
    refine oc0 (fun A W hx hf => ?_) ?_
    exact ok_allocS [(portS port0).flatten] [5] zerov25 (by rfl) (by rfl) hx.size
    exact OpsOk.nil
   case t20 => exact inferInstance
   clear hr; intro a21 w21 x hr hd hs
   have z_w_w19 := e_w.size
   have l21_7 := OwnBA.lt s7
   revert s0 s1 s8 s7; refine kp4 hs rfl ?_; intro s0 s1 s8 s7
   have s46 := fa ?b20_3 a21 w21 46 (hd 3 46 rfl)
   have s47 := fa ?b20_4 a21 w21 47 (hd 4 47 rfl)
   have s9 := fa ?b20_5 a21 w21 9 (hd 5 9 rfl)
   obtain ⟨g21_9, q21_9⟩ := PxN.at s9; clear s9; have n21_9 := PxS.lt q21_9
   replace q21_9 := PxS.mono q21_9 e_w.size
   have s9 := q21_9; clear q21_9
   replace e_w := e_w.trans x
   have e_w19 := x
   clear hd hs x
   have z22 := PxS.lt s9
   have l22 := (show (g21_9 = 0 ∨ w.heap.size < g21_9) ∧ True from ⟨by omega, trivial⟩)
   have l22_7 := OwnBA.lt (later e_w19 s7)
   refine wl_storeSn hr size25 s9 s46 (by exact port_len _) (by exact port_one) rfl ?_; clear hr; intro a22 w22 hc hu hr hs
   have hb : Below w.heap.size w21 w22 := hc.below e_w.size l22.1
   revert s0 s1 s8 s7 s47 s9; refine kp6 hs rfl ?_; intro s0 s1 s8 s7 s47 s9
   clear s46
   replace s7 := OwnBA.other (later e_w19 s7) hc (by omega)
   replace s9 := hu _ _ _ s9
   try simp only [List.set_cons_zero, List.set_cons_succ] at s9
   replace e_w := e_w.below (Nat.le_refl _) hb
   clear e_w19
   replace s8 := anyw (w2 := w22) s8
   replace s47 := anyw (w2 := w22) s47
   clear hu hs hc hb
   refine wl_op hr (ok_assign s47) inferInstance ?_; clear hr; intro a23 w23 x hr hd hs
   revert s0 s1 s7 s9 s8; refine kp5 hs rfl ?_; intro s0 s1 s7 s9 s8
   clear s47
   have s10 := hd 10 rfl (by decide)
   replace e_w := e_w.trans x
   have e_w22 := x
   clear hd hs x
   refine wpList_nil ?_
   rw [hfg] at s9 s10
   refine exit_then ?_
   refine wp_seq ?_
   refine wp_seq ?_
   refine wp_reg 103 [[(8, none)], [(48, some 0)]] [?b24_0, ?b24_1] mixed (by kernel_rfl) (by kernel_rfl) hr ?t24 ?o24 ?_
   case o24 =>
    refine oc0 (fun A W hx hf => ?_) ?_
    exact ok_movE (a0 := a23) (r0 hf)
    refine oc0 (fun A W hx hf => ?_) ?_
    exact ok_lss (p2 s8 e_w22 hx (q0 ?b24_0 A W 48 hf)) (ec A (.int .i64 5))
    exact OpsOk.nil
   case t24 => exact inferInstance
   clear hr; intro a25 w25 x hr hd hs
   revert s0 s1 s7 s9 s8 s10; refine kp6 hs rfl ?_; intro s0 s1 s7 s9 s8 s10
   have s49 := fa ?b24_1 a25 w25 49 (hd 1 49 rfl)
   replace e_w := e_w.trans x
   replace e_w22 := e_w22.trans x
   have e_w23 := x
   clear hd hs x
   refine exit_then ?_
   refine wp_cond_split (show _ = _ from s49) (fun h5 => ?_) (fun h5 => ?_)
   · skip
     have h5 : e < 5 := by simpa using h5
     rw [if_pos h5] at s9 s10
     refine wp_seq ?_
     refine wp_reg 103 [[(10, none)], [(50, some 0)], [(51, some 1)], [(9, none), (52, some 2)], [(52, some 2)], [(53, some 3), (54, some 4), (52, some 2)], [(52, some 2), (55, some 5)], [(56, some 6)]] [?b27_0, ?b27_1, ?b27_1, ?b27_3, ?b27_4, ?b27_5, ?b27_6, ?b27_6] mixed (by kernel_rfl) (by kernel_rfl) hr ?t27 ?o27 ?_
     case o27 =>
      refine oc0 (fun A W hx hf => ?_) ?_
      exact ok_movE (a0 := a25) (r0 hf)
      refine oc0 (fun A W hx hf => ?_) ?_
      exact ok_eql (p2 s10 e_w23 hx (q0 ?b27_0 A W 50 hf)) (ec A (.int .i64 3))
      refine oc0 (fun A W hx hf => ?_) ?_
      exact ok_move (q0 ?b27_1 A W 51 hf)
      refine ocg 52 ?_ (fun A W hx hf => ?_) ?_
      rfl
      exact gd_t (q1 ?b27_1 A W 52 hf) (fun hc => ok_loadSeg Try.underlying25 rfl size25 (o2 s9 e_w22 hx (r0 hf)) rfl rfl)
      refine ocg 52 ?_ (fun A W hx hf => ?_) ?_
      rfl
      exact gd_t (q0 ?b27_1 A W 52 hf) (fun hc => ok_build0 built25)
      refine ocg 52 ?_ (fun A W hx hf => ?_) ?_
      rfl
      exact gd_t (q2 ?b27_1 A W 52 hf) (fun hc => ok_eqself eqg25 eq_port (G.get (q0 ?b27_3 A W 53 hf) hc) (Is.conv (G.get (q1 ?b27_4 A W 54 hf) hc) (show _ = PortV port0 from rfl)))
      refine oc0 (fun A W hx hf => ?_) ?_
      exact ok_and (q0 ?b27_1 A W 52 hf) (q1 ?b27_5 A W 55 hf)
      refine oc0 (fun A W hx hf => ?_) ?_
      exact ok_assign (q0 ?b27_6 A W 56 hf)
      exact OpsOk.nil
     case t27 => exact inferInstance
     clear hr; intro a28 w28 x hr hd hs
     clear s0 s1 s7 s9 s8 s10 s49
     have s6 := fa ?b27_6 a28 w28 6 (hd 7 6 rfl)
     replace e_w := e_w.trans x
     clear e_w22
     clear e_w23
     clear hd hs x
     refine exit_then ?_
     refine wp_ret ?_
     refine then_ret ?_
     refine ret_tmp Try.results7 hr e_w ?_
     first | with_reducible exact s6 | exact Is.bool s6 (by simp) | exact Is.bool s6 rfl
   · skip
     have h5 : ¬ e < 5 := by simpa using h5
     rw [if_neg h5] at s9 s10
     refine wp_skip ?_
     refine exit_then ?_
     refine wp_seq ?_
     refine wp_seq ?_
     refine wp_reg 103 [[(8, none)], [(57, some 0)], [(7, none)], [(59, some 2)], [(58, some 1), (60, some 3)]] [?b29_0, ?b29_1, ?b29_2, ?b29_3, ?b29_4] mixed (by kernel_rfl) (by kernel_rfl) hr ?t29 ?o29 ?_
     case o29 =>
      refine oc0 (fun A W hx hf => ?_) ?_
      exact ok_movE (a0 := a25) (r0 hf)
      refine oc0 (fun A W hx hf => ?_) ?_
      exact ok_mulI (ec A (.int .i64 4)) (p2 s8 e_w22 hx (q0 ?b29_0 A W 57 hf)) (by omega)
      refine oc0 (fun A W hx hf => ?_) ?_
      exact ok_movE (a0 := a25) (r0 hf)
      refine oc0 (fun A W hx hf => ?_) ?_
      exact ok_len_bs Try.underlying22 (OwnBA.bs (p2 s7 e_w22 hx (q0 ?b29_2 A W 59 hf)))
      refine oc0 (fun A W hx hf => ?_) ?_
      exact ok_gtr (q0 ?b29_1 A W 58 hf) (q1 ?b29_3 A W 60 hf)
      exact OpsOk.nil
     case t29 => exact inferInstance
     clear hr; intro a30 w30 x hr hd hs
     revert s0 s1 s9 s8 s10; refine kp5 hs rfl ?_; intro s0 s1 s9 s8 s10
     clear s7 s49
     have s61 := fa ?b29_4 a30 w30 61 (hd 4 61 rfl)
     replace e_w := e_w.trans x
     replace e_w22 := e_w22.trans x
     replace e_w23 := e_w23.trans x
     clear hd hs x
     refine exit_then ?_
     refine wp_cond_split (show _ = _ from s61) (fun h6 => ?_) (fun h6 => ?_)
     · skip
       have h6 : 4 * e > (l.length : Int) := by simpa [flagd] using h6
       rw [if_pos h6] at s9 s10
       refine wp_seq ?_
       refine wp_reg 103 [[(10, none)], [(62, some 0)], [(63, some 1)], [(9, none), (64, some 2)], [(64, some 2)], [(65, some 3), (66, some 4), (64, some 2)], [(64, some 2), (67, some 5)], [(68, some 6)]] [?b32_0, ?b32_1, ?b32_1, ?b32_3, ?b32_4, ?b32_5, ?b32_6, ?b32_6] mixed (by kernel_rfl) (by kernel_rfl) hr ?t32 ?o32 ?_
       case o32 =>
        refine oc0 (fun A W hx hf => ?_) ?_
        exact ok_movE (a0 := a30) (r0 hf)
        refine oc0 (fun A W hx hf => ?_) ?_
        exact ok_eql (p2 s10 e_w23 hx (q0 ?b32_0 A W 62 hf)) (ec A (.int .i64 2))
        refine oc0 (fun A W hx hf => ?_) ?_
        exact ok_move (q0 ?b32_1 A W 63 hf)
        refine ocg 64 ?_ (fun A W hx hf => ?_) ?_
        rfl
        exact gd_t (q1 ?b32_1 A W 64 hf) (fun hc => ok_loadSeg Try.underlying25 rfl size25 (o2 s9 e_w22 hx (r0 hf)) rfl rfl)
        refine ocg 64 ?_ (fun A W hx hf => ?_) ?_
        rfl
        exact gd_t (q0 ?b32_1 A W 64 hf) (fun hc => ok_build0 built25)
        refine ocg 64 ?_ (fun A W hx hf => ?_) ?_
        rfl
        exact gd_t (q2 ?b32_1 A W 64 hf) (fun hc => ok_eqself eqg25 eq_port (G.get (q0 ?b32_3 A W 65 hf) hc) (Is.conv (G.get (q1 ?b32_4 A W 66 hf) hc) (show _ = PortV port0 from rfl)))
        refine oc0 (fun A W hx hf => ?_) ?_
        exact ok_and (q0 ?b32_1 A W 64 hf) (q1 ?b32_5 A W 67 hf)
        refine oc0 (fun A W hx hf => ?_) ?_
        exact ok_assign (q0 ?b32_6 A W 68 hf)
        exact OpsOk.nil
       case t32 => exact inferInstance
       clear hr; intro a33 w33 x hr hd hs
       clear s0 s1 s9 s8 s10 s61
       have s6 := fa ?b32_6 a33 w33 6 (hd 7 6 rfl)
       replace e_w := e_w.trans x
       clear e_w22
       clear e_w23
       clear hd hs x
       refine exit_then ?_
       refine wp_ret ?_
       refine then_ret ?_
       refine ret_tmp Try.results7 hr e_w ?_
       first | with_reducible exact s6 | exact Is.bool s6 (by simp) | exact Is.bool s6 rfl
     · skip
       have h6 : ¬ 4 * e > (l.length : Int) := by simpa [flagd] using h6
       rw [if_neg h6] at s9 s10
       refine wp_skip ?_
       refine exit_then ?_
       refine wp_seq ?_
       refine wp_reg 103 [[(10, none)], [(69, some 0)], [(70, some 1)], [(9, none), (71, some 2)], [(0, none), (71, some 2)], [(73, some 4), (71, some 2)], [(74, some 5), (71, some 2)], [(75, some 6), (71, some 2)], [(76, some 7), (71, some 2)], [(0, none), (71, some 2)], [(78, some 9), (71, some 2)], [(79, some 10), (71, some 2)], [(80, some 11), (71, some 2)], [(77, some 8), (81, some 12), (71, some 2)], [(0, none), (71, some 2)], [(83, some 14), (71, some 2)], [(84, some 15), (71, some 2)], [(85, some 16), (71, some 2)], [(86, some 17), (71, some 2)], [(0, none), (71, some 2)], [(88, some 19), (71, some 2)], [(89, some 20), (71, some 2)], [(90, some 21), (71, some 2)], [(87, some 18), (91, some 22), (71, some 2)], [(1, none), (71, some 2)], [(93, some 24), (71, some 2)], [(94, some 25), (71, some 2)], [(8, none), (71, some 2)], [(96, some 27), (71, some 2)], [(0, none), (71, some 2)], [(98, some 29), (71, some 2)], [(82, some 13), (92, some 23), (95, some 26), (97, some 28), (99, some 30), (71, some 2)], [(72, some 3), (100, some 31), (71, some 2)], [(71, some 2), (101, some 32)], [(102, some 33)]] [?b34_0, ?b34_1, ?b34_1, ?b34_3, ?b34_4, ?b34_5, ?b34_6, ?b34_7, ?b34_8, ?b34_9, ?b34_10, ?b34_11, ?b34_12, ?b34_13, ?b34_14, ?b34_15, ?b34_16, ?b34_17, ?b34_18, ?b34_19, ?b34_20, ?b34_21, ?b34_22, ?b34_23, ?b34_24, ?b34_25, ?b34_26, ?b34_27, ?b34_28, ?b34_29, ?b34_30, ?b34_31, ?b34_32, ?b34_33, ?b34_33] mixed (by kernel_rfl) (by kernel_rfl) hr ?t34 ?o34 ?_
       case o34 =>
        refine oc0 (fun A W hx hf => ?_) ?_
        exact ok_movE (a0 := a30) (r0 hf)
        refine oc0 (fun A W hx hf => ?_) ?_
        exact ok_eql (p2 s10 e_w23 hx (q0 ?b34_0 A W 69 hf)) (ec A (.int .i64 0))
        refine oc0 (fun A W hx hf => ?_) ?_
        exact ok_move (q0 ?b34_1 A W 70 hf)
        refine ocg 71 ?_ (fun A W hx hf => ?_) ?_
        rfl
        exact gd_t (q1 ?b34_1 A W 71 hf) (fun hc => ok_loadSeg Try.underlying25 rfl size25 (o2 s9 e_w22 hx (r0 hf)) rfl rfl)
        refine ocg 71 ?_ (fun A W hx hf => ?_) ?_
        rfl
        exact gd_t (q1 ?b34_1 A W 71 hf) (fun hc => ok_movE (a0 := a30) (r0 hf))
        refine ocg 71 ?_ (fun A W hx hf => ?_) ?_
        rfl
        exact gd_t (q1 ?b34_1 A W 71 hf) (fun hc => ok_index_bs (0) Try.underlying22 size5 (p2 s0 e_w hx (G.get (q0 ?b34_4 A W 73 hf) hc)) (ec A (.int .i64 0)) (by omega))
        refine ocg 71 ?_ (fun A W hx hf => ?_) ?_
        rfl
        exact gd_t (q1 ?b34_1 A W 71 hf) (fun hc => ok_loadp Try.underlying5 rfl (G.get (q0 ?b34_5 A W 74 hf) hc))
        refine ocg 71 ?_ (fun A W hx hf => ?_) ?_
        rfl
        exact gd_t (q1 ?b34_1 A W 71 hf) (fun hc => ok_convB Try.underlying5 Try.underlying3 (by decide) (G.get (q0 ?b34_6 A W 75 hf) hc))
        refine ocg 71 ?_ (fun A W hx hf => ?_) ?_
        rfl
        exact gd_t (q1 ?b34_1 A W 71 hf) (fun hc => ok_mulI (ec A (.int .i64 256)) (G.get (q0 ?b34_7 A W 76 hf) hc) (by omega))
        refine ocg 71 ?_ (fun A W hx hf => ?_) ?_
        rfl
        exact gd_t (q1 ?b34_1 A W 71 hf) (fun hc => ok_movE (a0 := a30) (r0 hf))
        refine ocg 71 ?_ (fun A W hx hf => ?_) ?_
        rfl
        exact gd_t (q1 ?b34_1 A W 71 hf) (fun hc => ok_index_bs (1) Try.underlying22 size5 (p2 s0 e_w hx (G.get (q0 ?b34_9 A W 78 hf) hc)) (ec A (.int .i64 1)) (by omega))
        refine ocg 71 ?_ (fun A W hx hf => ?_) ?_
        rfl
        exact gd_t (q1 ?b34_1 A W 71 hf) (fun hc => ok_loadp Try.underlying5 rfl (G.get (q0 ?b34_10 A W 79 hf) hc))
        refine ocg 71 ?_ (fun A W hx hf => ?_) ?_
        rfl
        exact gd_t (q1 ?b34_1 A W 71 hf) (fun hc => ok_convB Try.underlying5 Try.underlying3 (by decide) (G.get (q0 ?b34_11 A W 80 hf) hc))
        refine ocg 71 ?_ (fun A W hx hf => ?_) ?_
        rfl
        exact gd_t (q2 ?b34_1 A W 71 hf) (fun hc => ok_addI (G.get (q0 ?b34_8 A W 77 hf) hc) (G.get (q1 ?b34_12 A W 81 hf) hc) (by omega))
        refine ocg 71 ?_ (fun A W hx hf => ?_) ?_
        rfl
        exact gd_t (q1 ?b34_1 A W 71 hf) (fun hc => ok_movE (a0 := a30) (r0 hf))
        refine ocg 71 ?_ (fun A W hx hf => ?_) ?_
        rfl
        exact gd_t (q1 ?b34_1 A W 71 hf) (fun hc => ok_index_bs (2) Try.underlying22 size5 (p2 s0 e_w hx (G.get (q0 ?b34_14 A W 83 hf) hc)) (ec A (.int .i64 2)) (by omega))
        refine ocg 71 ?_ (fun A W hx hf => ?_) ?_
        rfl
        exact gd_t (q1 ?b34_1 A W 71 hf) (fun hc => ok_loadp Try.underlying5 rfl (G.get (q0 ?b34_15 A W 84 hf) hc))
        refine ocg 71 ?_ (fun A W hx hf => ?_) ?_
        rfl
        exact gd_t (q1 ?b34_1 A W 71 hf) (fun hc => ok_convB Try.underlying5 Try.underlying3 (by decide) (G.get (q0 ?b34_16 A W 85 hf) hc))
        refine ocg 71 ?_ (fun A W hx hf => ?_) ?_
        rfl
        exact gd_t (q1 ?b34_1 A W 71 hf) (fun hc => ok_mulI (ec A (.int .i64 256)) (G.get (q0 ?b34_17 A W 86 hf) hc) (by omega))
        refine ocg 71 ?_ (fun A W hx hf => ?_) ?_
        rfl
        exact gd_t (q1 ?b34_1 A W 71 hf) (fun hc => ok_movE (a0 := a30) (r0 hf))
        refine ocg 71 ?_ (fun A W hx hf => ?_) ?_
        rfl
        exact gd_t (q1 ?b34_1 A W 71 hf) (fun hc => ok_index_bs (3) Try.underlying22 size5 (p2 s0 e_w hx (G.get (q0 ?b34_19 A W 88 hf) hc)) (ec A (.int .i64 3)) (by omega))
        refine ocg 71 ?_ (fun A W hx hf => ?_) ?_
        rfl
        exact gd_t (q1 ?b34_1 A W 71 hf) (fun hc => ok_loadp Try.underlying5 rfl (G.get (q0 ?b34_20 A W 89 hf) hc))
        refine ocg 71 ?_ (fun A W hx hf => ?_) ?_
        rfl
        exact gd_t (q1 ?b34_1 A W 71 hf) (fun hc => ok_convB Try.underlying5 Try.underlying3 (by decide) (G.get (q0 ?b34_21 A W 90 hf) hc))
        refine ocg 71 ?_ (fun A W hx hf => ?_) ?_
        rfl
        exact gd_t (q2 ?b34_1 A W 71 hf) (fun hc => ok_addI (G.get (q0 ?b34_18 A W 87 hf) hc) (G.get (q1 ?b34_22 A W 91 hf) hc) (by omega))
        refine ocg 71 ?_ (fun A W hx hf => ?_) ?_
        rfl
        exact gd_t (q1 ?b34_1 A W 71 hf) (fun hc => ok_movE (a0 := a30) (r0 hf))
        refine ocg 71 ?_ (fun A W hx hf => ?_) ?_
        rfl
        exact gd_t (q1 ?b34_1 A W 71 hf) (fun hc => ok_convB Try.underlying5 Try.underlying3 (by decide) (p2 s1 e_w hx (G.get (q0 ?b34_24 A W 93 hf) hc)))
        refine ocg 71 ?_ (fun A W hx hf => ?_) ?_
        rfl
        exact gd_t (q1 ?b34_1 A W 71 hf) (fun hc => ok_rem (by decide) (G.get (q0 ?b34_25 A W 94 hf) hc) (ec A (.int .i64 64)))
        refine ocg 71 ?_ (fun A W hx hf => ?_) ?_
        rfl
        exact gd_t (q1 ?b34_1 A W 71 hf) (fun hc => ok_movE (a0 := a30) (r0 hf))
        refine ocg 71 ?_ (fun A W hx hf => ?_) ?_
        rfl
        exact gd_t (q1 ?b34_1 A W 71 hf) (fun hc => ok_mulI (ec A (.int .i64 4)) (p2 s8 e_w22 hx (G.get (q0 ?b34_27 A W 96 hf) hc)) (by omega))
        refine ocg 71 ?_ (fun A W hx hf => ?_) ?_
        rfl
        exact gd_t (q1 ?b34_1 A W 71 hf) (fun hc => ok_movE (a0 := a30) (r0 hf))
        refine ocg 71 ?_ (fun A W hx hf => ?_) ?_
        rfl
        exact gd_t (q1 ?b34_1 A W 71 hf) (fun hc => ok_len_bs Try.underlying22 (p2 s0 e_w hx (G.get (q0 ?b34_29 A W 98 hf) hc)))
        refine ocg 71 ?_ (fun A W hx hf => ?_) ?_
        rfl
        exact gd_t (q5 ?b34_1 A W 71 hf) (fun hc => ok_buildS [(0, (.tmp 82)), (1, (.tmp 92)), (2, (.tmp 95)), (3, (.tmp 97)), (4, (.tmp 99))] [(0, _), (1, _), (2, _), (3, _), (4, _)] lay25 rfl (PartsC.one (G.get (q0 ?b34_13 A W 82 hf) hc) rfl (PartsC.one (G.get (q1 ?b34_23 A W 92 hf) hc) rfl (PartsC.one (G.get (q2 ?b34_26 A W 95 hf) hc) rfl (PartsC.one (G.get (q3 ?b34_28 A W 97 hf) hc) rfl (PartsC.one (G.get (q4 ?b34_30 A W 99 hf) hc) rfl (PartsC.nil)))))) (by first | rfl | simp [adrCells, *]))
        refine ocg 71 ?_ (fun A W hx hf => ?_) ?_
        rfl
        exact gd_t (q2 ?b34_1 A W 71 hf) (fun hc => ok_eqself eqg25 eq_port (G.get (q0 ?b34_3 A W 72 hf) hc) (Is.conv (G.get (q1 ?b34_31 A W 100 hf) hc) (show _ = PortV ⟨wordAt l 0, wordAt l 2, (x.toNat : Int) % 64, 4 * e, (l.length : Int)⟩ from by rw [Int.tmod_eq_emod_of_nonneg (by omega)]; unfold wordAt; rw [byteAt_get (show 0 < l.length by omega), byteAt_get (show 1 < l.length by omega), byteAt_get (show 2 < l.length by omega), byteAt_get (show 3 < l.length by omega)]; rfl)))
        refine oc0 (fun A W hx hf => ?_) ?_
        exact ok_and (q0 ?b34_1 A W 71 hf) (q1 ?b34_32 A W 101 hf)
        refine oc0 (fun A W hx hf => ?_) ?_
        exact ok_assign (q0 ?b34_33 A W 102 hf)
        exact OpsOk.nil
       case t34 => repeat (first | exact stb_nil | refine stb_cons ?_)
       clear hr; intro a35 w35 x hr hd hs
       clear s0 s1 s9 s8 s10 s61
       have s6 := fa ?b34_33 a35 w35 6 (hd 34 6 rfl)
       replace e_w := e_w.trans x
       clear e_w22
       clear e_w23
       clear hd hs x
       refine exit_then ?_
       refine wp_ret ?_
       refine ret_tmp Try.results7 hr e_w ?_
       first | with_reducible exact s6 | exact Is.bool s6 (by simp) | exact Is.bool s6 rfl

end Go.Proofs.Yteccaejdgefdpaa
