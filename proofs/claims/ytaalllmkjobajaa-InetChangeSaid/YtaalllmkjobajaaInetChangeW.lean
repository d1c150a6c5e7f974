import Derived.Test.YtaalllmkjobajaaA06
import Derived.Test.YtaalllmkjobajaaV
import Derived.Test.YtaalllmkjobajaaM06
namespace Go.Proofs.Ytaalllmkjobajaa
open Go.RowKit
set_option linter.unusedVariables false
def D_law_InetChange_0 : List Tmp := [11, 12, 64, 65, 66, 67, 68, 69, 70, 71, 72, 73, 74, 75, 76, 77]
theorem law_InetChange {x0 x1 x2 x3 : Value} {w : World} {Ah Fm To Be : List UInt8} (h0 : (Bs Ah) x0 w) (h1 : (Bs Fm) x1 w) (h2 : (Bs To) x2 w) (h3 : (Bs Be) x3 w)  :
    Calls Try.prog 8 #[x0, x1, x2, x3] w (Ret (Is (.bool true)) w) := by
 have hl0 := Bs.len_le h0
 have hl1 := Bs.len_le h1
 have hl2 := Bs.len_le h2
 have hl3 := Bs.len_le h3
 refine enter Try.func8 rfl Try.ntmps8 (k := 4) rfl (by decide) (fun a0 hr hargs => ?_)
 have s0 := sarg h0 (hargs 0 (by decide))
 have s1 := sarg h1 (hargs 1 (by decide))
 have s2 := sarg h2 (hargs 2 (by decide))
 have s3 := sarg h3 (hargs 3 (by decide))
 clear hargs
 refine wp_seq ?_
 refine wp_reg 92 [[]] [?b1_0] mixed (by kernel_rfl) (by kernel_rfl) hr ?t1 ?o1 ?_
 case o1 =>
  refine oc0 (fun A W hx hf => ?_) ?_
  exact ok_assignc
  exact OpsOk.nil
 case t1 => exact inferInstance
 clear hr; intro a2 w2 x hr hd hs
 revert s0 s1 s2 s3; refine kp4 hs rfl ?_; intro s0 s1 s2 s3
 have e_w := x
 clear hd hs x
 refine exit_then ?_
 refine wp_seq ?_
 refine wp_seq ?_
 refine wp_reg 92 [[], [(13, some 0)], [(14, some 1)], [(0, none), (15, some 2)], [(16, some 3), (15, some 2)], [(17, some 4), (15, some 2)], [(15, some 2), (18, some 5)], [(19, some 6)], [(1, none), (20, some 7)], [(21, some 8), (20, some 7)], [(22, some 9), (20, some 7)], [(20, some 7), (23, some 10)], [(24, some 11)], [(2, none), (25, some 12)], [(26, some 13), (25, some 12)], [(1, none), (25, some 12)], [(28, some 15), (25, some 12)], [(27, some 14), (29, some 16), (25, some 12)], [(25, some 12), (30, some 17)], [(31, some 18)], [(3, none), (32, some 19)], [(33, some 20), (32, some 19)], [(34, some 21), (32, some 19)], [(32, some 19), (35, some 22)], [(36, some 23)], [(0, none), (37, some 24)], [(38, some 25), (37, some 24)], [(39, some 26), (37, some 24)], [(40, some 27), (37, some 24)], [(37, some 24), (41, some 28)], [(42, some 29)], [(1, none), (43, some 30)], [(44, some 31), (43, some 30)], [(45, some 32), (43, some 30)], [(46, some 33), (43, some 30)], [(43, some 30), (47, some 34)]] [?b3_0, ?b3_1, ?b3_1, ?b3_3, ?b3_4, ?b3_5, ?b3_6, ?b3_6, ?b3_8, ?b3_9, ?b3_10, ?b3_11, ?b3_11, ?b3_13, ?b3_14, ?b3_15, ?b3_16, ?b3_17, ?b3_18, ?b3_18, ?b3_20, ?b3_21, ?b3_22, ?b3_23, ?b3_23, ?b3_25, ?b3_26, ?b3_27, ?b3_28, ?b3_29, ?b3_29, ?b3_31, ?b3_32, ?b3_33, ?b3_34, ?b3_35] mixed (by kernel_rfl) (by kernel_rfl) hr ?t3 ?o3 ?_
 case o3 =>
  refine oc0 (fun A W hx hf => ?_) ?_
  exact ok_call0 body9 (c_awake06 )
  refine oc0 (fun A W hx hf => ?_) ?_
  exact ok_not (q0 ?b3_0 A W 13 hf)
  refine oc0 (fun A W hx hf => ?_) ?_
  exact ok_move (q0 ?b3_1 A W 14 hf)
  refine ocg 15 ?_ (fun A W hx hf => ?_) ?_
  rfl
  exact gd_f (q1 ?b3_1 A W 15 hf) (fun hc => ok_movE (a0 := a2) (r0 hf))
  refine ocg 15 ?_ (fun A W hx hf => ?_) ?_
  rfl
  exact gd_f (q1 ?b3_1 A W 15 hf) (fun hc => ok_len_bs Try.underlying22 (p2 s0 e_w hx (G.get (q0 ?b3_3 A W 16 hf) hc)))
  refine ocg 15 ?_ (fun A W hx hf => ?_) ?_
  rfl
  exact gd_f (q1 ?b3_1 A W 15 hf) (fun hc => ok_gtr (G.get (q0 ?b3_4 A W 17 hf) hc) (ec A (.int .i64 200)))
  refine oc0 (fun A W hx hf => ?_) ?_
  exact ok_or (q0 ?b3_1 A W 15 hf) (q1 ?b3_5 A W 18 hf)
  refine oc0 (fun A W hx hf => ?_) ?_
  exact ok_move (q0 ?b3_6 A W 19 hf)
  refine ocg 20 ?_ (fun A W hx hf => ?_) ?_
  rfl
  exact gd_f (q1 ?b3_6 A W 20 hf) (fun hc => ok_movE (a0 := a2) (r0 hf))
  refine ocg 20 ?_ (fun A W hx hf => ?_) ?_
  rfl
  exact gd_f (q1 ?b3_6 A W 20 hf) (fun hc => ok_len_bs Try.underlying22 (p2 s1 e_w hx (G.get (q0 ?b3_8 A W 21 hf) hc)))
  refine ocg 20 ?_ (fun A W hx hf => ?_) ?_
  rfl
  exact gd_f (q1 ?b3_6 A W 20 hf) (fun hc => ok_gtr (G.get (q0 ?b3_9 A W 22 hf) hc) (ec A (.int .i64 200)))
  refine oc0 (fun A W hx hf => ?_) ?_
  exact ok_or (q0 ?b3_6 A W 20 hf) (q1 ?b3_10 A W 23 hf)
  refine oc0 (fun A W hx hf => ?_) ?_
  exact ok_move (q0 ?b3_11 A W 24 hf)
  refine ocg 25 ?_ (fun A W hx hf => ?_) ?_
  rfl
  exact gd_f (q1 ?b3_11 A W 25 hf) (fun hc => ok_movE (a0 := a2) (r0 hf))
  refine ocg 25 ?_ (fun A W hx hf => ?_) ?_
  rfl
  exact gd_f (q1 ?b3_11 A W 25 hf) (fun hc => ok_len_bs Try.underlying22 (p2 s2 e_w hx (G.get (q0 ?b3_13 A W 26 hf) hc)))
  refine ocg 25 ?_ (fun A W hx hf => ?_) ?_
  rfl
  exact gd_f (q1 ?b3_11 A W 25 hf) (fun hc => ok_movE (a0 := a2) (r0 hf))
  refine ocg 25 ?_ (fun A W hx hf => ?_) ?_
  rfl
  exact gd_f (q1 ?b3_11 A W 25 hf) (fun hc => ok_len_bs Try.underlying22 (p2 s1 e_w hx (G.get (q0 ?b3_15 A W 28 hf) hc)))
  refine ocg 25 ?_ (fun A W hx hf => ?_) ?_
  rfl
  exact gd_f (q2 ?b3_11 A W 25 hf) (fun hc => ok_neq (G.get (q0 ?b3_14 A W 27 hf) hc) (G.get (q1 ?b3_16 A W 29 hf) hc))
  refine oc0 (fun A W hx hf => ?_) ?_
  exact ok_or (q0 ?b3_11 A W 25 hf) (q1 ?b3_17 A W 30 hf)
  refine oc0 (fun A W hx hf => ?_) ?_
  exact ok_move (q0 ?b3_18 A W 31 hf)
  refine ocg 32 ?_ (fun A W hx hf => ?_) ?_
  rfl
  exact gd_f (q1 ?b3_18 A W 32 hf) (fun hc => ok_movE (a0 := a2) (r0 hf))
  refine ocg 32 ?_ (fun A W hx hf => ?_) ?_
  rfl
  exact gd_f (q1 ?b3_18 A W 32 hf) (fun hc => ok_len_bs Try.underlying22 (p2 s3 e_w hx (G.get (q0 ?b3_20 A W 33 hf) hc)))
  refine ocg 32 ?_ (fun A W hx hf => ?_) ?_
  rfl
  exact gd_f (q1 ?b3_18 A W 32 hf) (fun hc => ok_gtr (G.get (q0 ?b3_21 A W 34 hf) hc) (ec A (.int .i64 200)))
  refine oc0 (fun A W hx hf => ?_) ?_
  exact ok_or (q0 ?b3_18 A W 32 hf) (q1 ?b3_22 A W 35 hf)
  refine oc0 (fun A W hx hf => ?_) ?_
  exact ok_move (q0 ?b3_23 A W 36 hf)
  refine ocg 37 ?_ (fun A W hx hf => ?_) ?_
  rfl
  exact gd_f (q1 ?b3_23 A W 37 hf) (fun hc => ok_movE (a0 := a2) (r0 hf))
  refine ocg 37 ?_ (fun A W hx hf => ?_) ?_
  rfl
  exact gd_f (q1 ?b3_23 A W 37 hf) (fun hc => ok_len_bs Try.underlying22 (p2 s0 e_w hx (G.get (q0 ?b3_25 A W 38 hf) hc)))
  refine ocg 37 ?_ (fun A W hx hf => ?_) ?_
  rfl
  exact gd_f (q1 ?b3_23 A W 37 hf) (fun hc => ok_rem (by decide) (G.get (q0 ?b3_26 A W 39 hf) hc) (ec A (.int .i64 2)))
  refine ocg 37 ?_ (fun A W hx hf => ?_) ?_
  rfl
  exact gd_f (q1 ?b3_23 A W 37 hf) (fun hc => ok_eql (G.get (q0 ?b3_27 A W 40 hf) hc) (ec A (.int .i64 1)))
  refine oc0 (fun A W hx hf => ?_) ?_
  exact ok_or (q0 ?b3_23 A W 37 hf) (q1 ?b3_28 A W 41 hf)
  refine oc0 (fun A W hx hf => ?_) ?_
  exact ok_move (q0 ?b3_29 A W 42 hf)
  refine ocg 43 ?_ (fun A W hx hf => ?_) ?_
  rfl
  exact gd_f (q1 ?b3_29 A W 43 hf) (fun hc => ok_movE (a0 := a2) (r0 hf))
  refine ocg 43 ?_ (fun A W hx hf => ?_) ?_
  rfl
  exact gd_f (q1 ?b3_29 A W 43 hf) (fun hc => ok_len_bs Try.underlying22 (p2 s1 e_w hx (G.get (q0 ?b3_31 A W 44 hf) hc)))
  refine ocg 43 ?_ (fun A W hx hf => ?_) ?_
  rfl
  exact gd_f (q1 ?b3_29 A W 43 hf) (fun hc => ok_rem (by decide) (G.get (q0 ?b3_32 A W 45 hf) hc) (ec A (.int .i64 2)))
  refine ocg 43 ?_ (fun A W hx hf => ?_) ?_
  rfl
  exact gd_f (q1 ?b3_29 A W 43 hf) (fun hc => ok_eql (G.get (q0 ?b3_33 A W 46 hf) hc) (ec A (.int .i64 1)))
  refine oc0 (fun A W hx hf => ?_) ?_
  exact ok_or (q0 ?b3_29 A W 43 hf) (q1 ?b3_34 A W 47 hf)
  exact OpsOk.nil
 case t3 => exact inferInstance
 clear hr; intro a4 w4 x hr hd hs
 revert s0 s1 s2 s3; refine kp4 hs rfl ?_; intro s0 s1 s2 s3
 have s48 := fa ?b3_35 a4 w4 48 (hd 35 48 rfl)
 replace e_w := e_w.trans x
 clear hd hs x
 refine exit_then ?_
 refine wp_cond_split (show _ = _ from s48) (fun hl => ?_) (fun hl => ?_)
 · skip
   skip
   refine wp_seq ?_
   refine wp_reg 92 [[], [(49, some 0)]] [?b6_0, ?b6_0] mixed (by kernel_rfl) (by kernel_rfl) hr ?t6 ?o6 ?_
   case o6 =>
    refine oc0 (fun A W hx hf => ?_) ?_
    exact ok_call0 body9 (c_awake06 )
    refine oc0 (fun A W hx hf => ?_) ?_
    exact ok_assign (q0 ?b6_0 A W 49 hf)
    exact OpsOk.nil
   case t6 => exact inferInstance
   clear hr; intro a7 w7 x hr hd hs
   clear s0 s1 s2 s3 s48
   have s8 := fa ?b6_0 a7 w7 8 (hd 1 8 rfl)
   replace e_w := e_w.trans x
   clear hd hs x
   refine exit_then ?_
   refine wp_ret ?_
   refine then_ret ?_
   refine ret_tmp Try.results8 hr e_w ?_
   first | with_reducible exact s8 | exact Is.bool s8 (by rw [List.take_length]; exact change_end hl.1.2.2.1 hl.2.1 hl.2.2)
 · skip
   have hl : (Ah.length ≤ 200 ∧ Fm.length ≤ 200 ∧ To.length = Fm.length ∧ Be.length ≤ 200) ∧ Ah.length % 2 = 0 ∧ Fm.length % 2 = 0 := change_guard hl
   refine wp_skip ?_
   refine exit_then ?_
   refine wp_seq ?_
   have hl4 := hl.1; have hl5 := hl.2
   refine wp_reg_pre (l := [_, _]) (rest := [_, _, _, _, _, _]) 92 [[], [(0, none)]] [?b8_0, ?b8_1] (by kernel_rfl) (by kernel_rfl) hr ?t8 ?o8 ?_
   case o8 =>
    refine oc0 (fun A W hx hf => ?_) ?_
    exact ok_ownBs [] [] Try.underlying22 size5 zero5 rfl rfl (by decide) hx.size (PartsOk.nil)
    refine oc0 (fun A W hx hf => ?_) ?_
    exact ok_movE (a0 := a4) (r0 hf)
    exact OpsOk.nil
   case t8 => exact inferInstance
   clear hr; intro a9 w9 x hr hd hs
   have z_w_w4 := e_w.size
   have u51 := mv s0 (fa ?b8_1 a9 w9 51 (hd 1 51 rfl))
   revert s0 s1 s2 s3; refine kp4 hs rfl ?_; intro s0 s1 s2 s3
   clear s48
   have s51 := u51; clear u51
   have s50 := fa ?b8_0 a9 w9 50 (hd 0 50 rfl)
   replace e_w := e_w.trans x
   have e_w4 := x
   clear hd hs x
   refine wl_append_bs hr (by decide) Try.underlying22 info5 rfl s50 (later e_w s51) e_w4.size (by simp; omega) ?_; clear hr; intro a10 w10 hb hr hd hs
   revert s0 s1 s2 s3; refine kp4 hs rfl ?_; intro s0 s1 s2 s3
   clear s51 s50
   have s52 := hd
   replace e_w := e_w.below z_w_w4 hb
   replace e_w4 := e_w4.below (Nat.le_refl _) hb
   clear hd hs hb
   refine wl_op hr (ok_move (later e_w s1)) inferInstance ?_; clear hr; intro a11 w11 x hr hd hs
   revert s0 s1 s2 s3 s52; refine kp5 hs rfl ?_; intro s0 s1 s2 s3 s52
   have s53 := hd 53 rfl (by decide)
   replace e_w := e_w.trans x
   replace e_w4 := e_w4.trans x
   have e_w10 := x
   clear hd hs x
   refine wl_append_bs hr (by decide) Try.underlying22 info5 rfl (later e_w10 s52) s53 e_w4.size (by simp; omega) ?_; clear hr; intro a12 w12 hb hr hd hs
   revert s0 s1 s2 s3; refine kp4 hs rfl ?_; intro s0 s1 s2 s3
   clear s52 s53
   have s54 := hd
   replace e_w := e_w.below z_w_w4 hb
   replace e_w4 := e_w4.below (Nat.le_refl _) hb
   clear e_w10
   clear hd hs hb
   refine wl_op hr (ok_move (later e_w s3)) inferInstance ?_; clear hr; intro a13 w13 x hr hd hs
   revert s0 s1 s2 s3 s54; refine kp5 hs rfl ?_; intro s0 s1 s2 s3 s54
   have s55 := hd 55 rfl (by decide)
   replace e_w := e_w.trans x
   replace e_w4 := e_w4.trans x
   have e_w12 := x
   clear hd hs x
   refine wl_append_bs hr (by decide) Try.underlying22 info5 rfl (later e_w12 s54) s55 e_w4.size (by simp; omega) ?_; clear hr; intro a14 w14 hb hr hd hs
   revert s0 s1 s2 s3; refine kp4 hs rfl ?_; intro s0 s1 s2 s3
   clear s54 s55
   have s56 := hd
   replace e_w := e_w.below z_w_w4 hb
   replace e_w4 := e_w4.below (Nat.le_refl _) hb
   clear e_w12
   clear hd hs hb
   refine wl_op hr (ok_assign s56) inferInstance ?_; clear hr; intro a15 w15 x hr hd hs
   revert s0 s1 s2 s3; refine kp4 hs rfl ?_; intro s0 s1 s2 s3
   clear s56
   have s9 := hd 9 rfl (by decide)
   replace e_w := e_w.trans x
   replace e_w4 := e_w4.trans x
   clear hd hs x
   refine wpList_nil ?_
   refine exit_then ?_
   refine wp_seq ?_
   refine wp_reg_pre (l := [_, _]) (rest := [_, _, _, _, _, _]) 92 [[], [(0, none)]] [?b16_0, ?b16_1] (by kernel_rfl) (by kernel_rfl) hr ?t16 ?o16 ?_
   case o16 =>
    refine oc0 (fun A W hx hf => ?_) ?_
    exact ok_ownBs [] [] Try.underlying22 size5 zero5 rfl rfl (by decide) hx.size (PartsOk.nil)
    refine oc0 (fun A W hx hf => ?_) ?_
    exact ok_movE (a0 := a15) (r0 hf)
    exact OpsOk.nil
   case t16 => exact inferInstance
   clear hr; intro a17 w17 x hr hd hs
   have z_w_w15 := e_w.size
   have z_w4_w15 := e_w4.size
   have u58 := mv s0 (fa ?b16_1 a17 w17 58 (hd 1 58 rfl))
   revert s1 s2 s3 s9; refine kp4 hs rfl ?_; intro s1 s2 s3 s9
   clear s0
   have s58 := u58; clear u58
   have s57 := fa ?b16_0 a17 w17 57 (hd 0 57 rfl)
   replace e_w := e_w.trans x
   replace e_w4 := e_w4.trans x
   have e_w15 := x
   clear hd hs x
   refine wl_append_bs hr (by decide) Try.underlying22 info5 rfl s57 (later e_w s58) e_w15.size (by simp; omega) ?_; clear hr; intro a18 w18 hb hr hd hs
   revert s1 s2 s3 s9; refine kp4 hs rfl ?_; intro s1 s2 s3 s9
   clear s58 s57
   have s59 := hd
   replace e_w := e_w.below z_w_w15 hb
   replace e_w4 := e_w4.below z_w4_w15 hb
   replace e_w15 := e_w15.below (Nat.le_refl _) hb
   clear hd hs hb
   refine wl_op hr (ok_move (later e_w s2)) inferInstance ?_; clear hr; intro a19 w19 x hr hd hs
   revert s1 s2 s3 s9 s59; refine kp5 hs rfl ?_; intro s1 s2 s3 s9 s59
   have s60 := hd 60 rfl (by decide)
   replace e_w := e_w.trans x
   replace e_w4 := e_w4.trans x
   replace e_w15 := e_w15.trans x
   have e_w18 := x
   clear hd hs x
   refine wl_append_bs hr (by decide) Try.underlying22 info5 rfl (later e_w18 s59) s60 e_w15.size (by simp; omega) ?_; clear hr; intro a20 w20 hb hr hd hs
   revert s1 s2 s3 s9; refine kp4 hs rfl ?_; intro s1 s2 s3 s9
   clear s59 s60
   have s61 := hd
   replace e_w := e_w.below z_w_w15 hb
   replace e_w4 := e_w4.below z_w4_w15 hb
   replace e_w15 := e_w15.below (Nat.le_refl _) hb
   clear e_w18
   clear hd hs hb
   refine wl_op hr (ok_move (later e_w s3)) inferInstance ?_; clear hr; intro a21 w21 x hr hd hs
   revert s1 s2 s9 s61; refine kp4 hs rfl ?_; intro s1 s2 s9 s61
   clear s3
   have s62 := hd 62 rfl (by decide)
   replace e_w := e_w.trans x
   replace e_w4 := e_w4.trans x
   replace e_w15 := e_w15.trans x
   have e_w20 := x
   clear hd hs x
   refine wl_append_bs hr (by decide) Try.underlying22 info5 rfl (later e_w20 s61) s62 e_w15.size (by simp; omega) ?_; clear hr; intro a22 w22 hb hr hd hs
   revert s1 s2 s9; refine kp3 hs rfl ?_; intro s1 s2 s9
   clear s61 s62
   have s63 := hd
   replace e_w := e_w.below z_w_w15 hb
   replace e_w4 := e_w4.below z_w4_w15 hb
   replace e_w15 := e_w15.below (Nat.le_refl _) hb
   clear e_w20
   clear hd hs hb
   refine wl_op hr (ok_assign s63) inferInstance ?_; clear hr; intro a23 w23 x hr hd hs
   revert s1 s2 s9; refine kp3 hs rfl ?_; intro s1 s2 s9
   clear s63
   have s10 := hd 10 rfl (by decide)
   replace e_w := e_w.trans x
   replace e_w4 := e_w4.trans x
   replace e_w15 := e_w15.trans x
   clear hd hs x
   refine wpList_nil ?_
   replace s10 := OwnB.cast s10 (show _ = Ah ++ To ++ Be from by simp)
   refine exit_then ?_
   refine wp_seq ?_
   refine wp_reg 92 [[]] [?b24_0] mixed (by kernel_rfl) (by kernel_rfl) hr ?t24 ?o24 ?_
   case o24 =>
    refine oc0 (fun A W hx hf => ?_) ?_
    exact ok_assignc
    exact OpsOk.nil
   case t24 => exact inferInstance
   clear hr; intro a25 w25 x hr hd hs
   revert s1 s2 s9 s10; refine kp4 hs rfl ?_; intro s1 s2 s9 s10
   have s11 := fa ?b24_0 a25 w25 11 (hd 0 11 rfl)
   replace e_w := e_w.trans x
   replace e_w4 := e_w4.trans x
   replace e_w15 := e_w15.trans x
   have e_w23 := x
   clear hd hs x
   refine exit_then ?_
   refine wp_seq ?_
   refine wp_seq ?_
   refine wp_reg 92 [[]] [?b26_0] mixed (by kernel_rfl) (by kernel_rfl) hr ?t26 ?o26 ?_
   case o26 =>
    refine oc0 (fun A W hx hf => ?_) ?_
    exact ok_assignc
    exact OpsOk.nil
   case t26 => exact inferInstance
   clear hr; intro a27 w27 x hr hd hs
   revert s1 s2 s9 s10 s11; refine kp5 hs rfl ?_; intro s1 s2 s9 s10 s11
   have s12 := fa ?b26_0 a27 w27 12 (hd 0 12 rfl)
   replace e_w := e_w.trans x
   replace e_w4 := e_w4.trans x
   replace e_w15 := e_w15.trans x
   replace e_w23 := e_w23.trans x
   have e_w25 := x
   clear hd hs x
   refine exit_then ?_
   refine wp_block ?_
   refine wp_loop_inv (fun n A W => ∃ (i : Nat), n = (Ah ++ To ++ Be).length - i ∧ Fr 92 A ∧ Same D_law_InetChange_0 a27 A ∧ Ext w W ∧ Ext w4 W ∧ Ext w15 W ∧ Ext w23 W ∧ (i ≤ (Ah ++ To ++ Be).length) ∧ (Is (.bool (((Ah ++ To ++ Be).take i).any (fun c => c != 0)))) (A.eval (.tmp 11)) W ∧ (Is (.int .i64 (i : Int))) (A.eval (.tmp 12)) W) ?start28 ?_
   case start28 =>
    refine ⟨_, 0, rfl, hr, Same.rfl, e_w, e_w4, e_w15, e_w23, (by first | assumption | omega), ?_, ?_⟩
    · exact Is.bool (later e_w25 s11) (by simp)
    · exact s12
   intro n28 a28 w28 hI
   clear e_w
   clear e_w4
   clear e_w15
   clear e_w23
   clear e_w25
   clear hr; obtain ⟨i, hn28, hr, hs, e_w, e_w4, e_w15, e_w23, hi, u11, u12⟩ := hI
   revert s1 s2 s9 s10; refine kp4 hs rfl ?_; intro s1 s2 s9 s10
   clear s11 s12
   have s11 := u11; clear u11
   have s12 := u12; clear u12
   have m28 := hs; clear hs
   refine wp_seq ?_
   refine wp_seq ?_
   refine wp_reg 92 [[(12, none)], [(10, none)], [(65, some 1)], [(64, some 0), (66, some 2)]] [?b29_0, ?b29_1, ?b29_2, ?b29_3] mixed (by kernel_rfl) (by kernel_rfl) hr ?t29 ?o29 ?_
   case o29 =>
    refine oc0 (fun A W hx hf => ?_) ?_
    exact ok_movE (a0 := a28) (r0 hf)
    refine oc0 (fun A W hx hf => ?_) ?_
    exact ok_movE (a0 := a28) (r0 hf)
    refine oc0 (fun A W hx hf => ?_) ?_
    exact ok_len_bs Try.underlying22 (OwnB.bs (p2 s10 e_w23 hx (q0 ?b29_1 A W 65 hf)))
    refine oc0 (fun A W hx hf => ?_) ?_
    exact ok_lss (p1 s12 hx (q0 ?b29_0 A W 64 hf)) (q1 ?b29_2 A W 66 hf)
    exact OpsOk.nil
   case t29 => exact inferInstance
   clear hr; intro a30 w30 x hr hd hs
   revert s1 s2 s9 s10 s11 s12; refine kp6 hs rfl ?_; intro s1 s2 s9 s10 s11 s12
   have s67 := fa ?b29_3 a30 w30 67 (hd 3 67 rfl)
   replace e_w := e_w.trans x
   replace e_w4 := e_w4.trans x
   replace e_w15 := e_w15.trans x
   replace e_w23 := e_w23.trans x
   have e_w28 := x
   replace m28 := m28.tr hs rfl
   clear hd hs x
   refine exit_then ?_
   refine wp_cond_split (show _ = _ from s67) (fun hlt => ?_) (fun hlt => ?_)
   · skip
     have hlt : i < (Ah ++ To ++ Be).length := by simp at hlt; simp; omega
     have hln : (Ah ++ To ++ Be).length ≤ 600 := by simp; omega
     refine wp_skip ?_
     refine exit_then ?_
     refine wp_seq ?_
     refine wp_block ?_
     refine wp_reg 92 [[(11, none)], [(70, some 0)], [(10, none), (71, some 1)], [(12, none), (71, some 1)], [(72, some 2), (73, some 3), (71, some 1)], [(74, some 4), (71, some 1)], [(75, some 5), (71, some 1)], [(71, some 1), (76, some 6)], [(77, some 7)]] [?b32_0, ?b32_0, ?b32_2, ?b32_3, ?b32_4, ?b32_5, ?b32_6, ?b32_7, ?b32_7] mixed (by kernel_rfl) (by kernel_rfl) hr ?t32 ?o32 ?_
     case o32 =>
      refine oc0 (fun A W hx hf => ?_) ?_
      exact ok_movE (a0 := a30) (r0 hf)
      refine oc0 (fun A W hx hf => ?_) ?_
      exact ok_move (q0 ?b32_0 A W 70 hf)
      refine ocg 71 ?_ (fun A W hx hf => ?_) ?_
      rfl
      exact gd_f (p2 s11 e_w28 hx (q1 ?b32_0 A W 71 hf)) (fun hc => ok_movE (a0 := a30) (r0 hf))
      refine ocg 71 ?_ (fun A W hx hf => ?_) ?_
      rfl
      exact gd_f (p2 s11 e_w28 hx (q1 ?b32_0 A W 71 hf)) (fun hc => ok_movE (a0 := a30) (r0 hf))
      refine ocg 71 ?_ (fun A W hx hf => ?_) ?_
      rfl
      exact gd_f (p2 s11 e_w28 hx (q2 ?b32_0 A W 71 hf)) (fun hc => ok_index_bs (_) Try.underlying22 size5 (OwnB.bs (p2 s10 e_w23 hx (G.get (q0 ?b32_2 A W 72 hf) hc))) (p2 s12 e_w28 hx (G.get (q1 ?b32_3 A W 73 hf) hc)) (by first | omega | decide | (simp; done) | (simp; omega)))
      refine ocg 71 ?_ (fun A W hx hf => ?_) ?_
      rfl
      exact gd_f (p2 s11 e_w28 hx (q1 ?b32_0 A W 71 hf)) (fun hc => ok_loadp Try.underlying5 rfl (G.get (q0 ?b32_4 A W 74 hf) hc))
      refine ocg 71 ?_ (fun A W hx hf => ?_) ?_
      rfl
      exact gd_f (p2 s11 e_w28 hx (q1 ?b32_0 A W 71 hf)) (fun hc => ok_neq (G.get (q0 ?b32_5 A W 75 hf) hc) (ec A (.int .u8 0)))
      refine oc0 (fun A W hx hf => ?_) ?_
      exact ok_or (p2 s11 e_w28 hx (q0 ?b32_0 A W 71 hf)) (q1 ?b32_6 A W 76 hf)
      refine oc0 (fun A W hx hf => ?_) ?_
      exact ok_assign (q0 ?b32_7 A W 77 hf)
      exact OpsOk.nil
     case t32 => exact inferInstance
     clear hr; intro a33 w33 x hr hd hs
     revert s1 s2 s9 s10 s12; refine kp5 hs rfl ?_; intro s1 s2 s9 s10 s12
     clear s11 s67
     have s11 := fa ?b32_7 a33 w33 11 (hd 8 11 rfl)
     replace e_w := e_w.trans x
     replace e_w4 := e_w4.trans x
     replace e_w15 := e_w15.trans x
     replace e_w23 := e_w23.trans x
     replace e_w28 := e_w28.trans x
     replace m28 := m28.tr hs rfl
     clear hd hs x
     refine blk_normal ?_
     refine exit_then ?_
     refine wp_reg 92 [[(12, none)], [(68, some 0)], [(69, some 1)]] [?b34_0, ?b34_1, ?b34_1] mixed (by kernel_rfl) (by kernel_rfl) hr ?t34 ?o34 ?_
     case o34 =>
      refine oc0 (fun A W hx hf => ?_) ?_
      exact ok_movE (a0 := a33) (r0 hf)
      refine oc0 (fun A W hx hf => ?_) ?_
      exact ok_addI (p2 s12 e_w28 hx (q0 ?b34_0 A W 68 hf)) (ec A (.int .i64 1)) (by omega)
      refine oc0 (fun A W hx hf => ?_) ?_
      exact ok_assign (q0 ?b34_1 A W 69 hf)
      exact OpsOk.nil
     case t34 => exact inferInstance
     clear hr; intro a35 w35 x hr hd hs
     revert s1 s2 s9 s10 s11; refine kp5 hs rfl ?_; intro s1 s2 s9 s10 s11
     clear s12
     have s12 := fa ?b34_1 a35 w35 12 (hd 2 12 rfl)
     replace e_w := e_w.trans x
     replace e_w4 := e_w4.trans x
     replace e_w15 := e_w15.trans x
     replace e_w23 := e_w23.trans x
     clear e_w28
     have e_w33 := x
     replace m28 := m28.tr hs rfl
     clear hd hs x
     refine exit_then ?_
     refine ⟨(fun (i : Nat) => (Ah ++ To ++ Be).length - i) (i + 1), ?_, ?_⟩
     · (try dsimp only); omega
     refine ⟨i + 1, rfl, hr, m28, e_w, e_w4, e_w15, e_w23, (by first | assumption | omega), ?_, ?_⟩
     · exact Is.bool (later e_w33 s11) (any_step0 hlt)
     · exact s12
   · skip
     have hlt : i = (Ah ++ To ++ Be).length := by simp at hlt hi; simp; omega
     subst hlt
     refine wp_exit ?_
     refine then_exit ?_
     refine then_exit ?_
     refine blk_exit ?_
     refine exit_then ?_
     refine wp_seq ?_
     have hcb := ck_bd [[] ++ Ah ++ Fm ++ Be].flatten
     refine wp_reg 92 [[(11, none)], [(78, some 0)], [(79, some 1)], [(9, none), (80, some 2)], [(81, some 3), (80, some 2)], [(82, some 4), (80, some 2)], [(1, none), (80, some 2)], [(2, none), (80, some 2)], [(83, some 5), (84, some 6), (85, some 7), (80, some 2)], [(10, none), (80, some 2)], [(87, some 9), (80, some 2)], [(88, some 10), (80, some 2)], [(86, some 8), (89, some 11), (80, some 2)], [(80, some 2), (90, some 12)], [(91, some 13)]] [?b36_0, ?b36_1, ?b36_1, ?b36_3, ?b36_4, ?b36_5, ?b36_6, ?b36_7, ?b36_8, ?b36_9, ?b36_10, ?b36_11, ?b36_12, ?b36_13, ?b36_13] mixed (by kernel_rfl) (by kernel_rfl) hr ?t36 ?o36 ?_
     case o36 =>
      refine oc0 (fun A W hx hf => ?_) ?_
      exact ok_movE (a0 := a30) (r0 hf)
      refine oc0 (fun A W hx hf => ?_) ?_
      exact ok_not (p2 s11 e_w28 hx (q0 ?b36_0 A W 78 hf))
      refine oc0 (fun A W hx hf => ?_) ?_
      exact ok_move (q0 ?b36_1 A W 79 hf)
      refine ocg 80 ?_ (fun A W hx hf => ?_) ?_
      rfl
      exact gd_f (q1 ?b36_1 A W 80 hf) (fun hc => ok_movE (a0 := a30) (r0 hf))
      refine ocg 80 ?_ (fun A W hx hf => ?_) ?_
      rfl
      exact gd_f (q1 ?b36_1 A W 80 hf) (fun hc => ok_buildBss [(.tmp 81)] [_] Try.underlying44 size22 zero22 rfl rfl (by decide) (PartsOk.cons (OwnB.bs (p2 s9 e_w15 hx (G.get (q0 ?b36_3 A W 81 hf) hc))) (PartsOk.nil)))
      refine ocg 80 ?_ (fun A W hx hf => ?_) ?_
      rfl
      exact gd_f (q1 ?b36_1 A W 80 hf) (fun hc => ok_call1 body10 (c_Sum (G.get (q0 ?b36_4 A W 82 hf) hc)))
      refine ocg 80 ?_ (fun A W hx hf => ?_) ?_
      rfl
      exact gd_f (q1 ?b36_1 A W 80 hf) (fun hc => ok_movE (a0 := a30) (r0 hf))
      refine ocg 80 ?_ (fun A W hx hf => ?_) ?_
      rfl
      exact gd_f (q1 ?b36_1 A W 80 hf) (fun hc => ok_movE (a0 := a30) (r0 hf))
      refine ocg 80 ?_ (fun A W hx hf => ?_) ?_
      rfl
      exact gd_f (q3 ?b36_1 A W 80 hf) (fun hc => ok_call3 body18 (c_Changed (G.get (q0 ?b36_5 A W 83 hf) hc) (p2 s1 e_w hx (G.get (q1 ?b36_6 A W 84 hf) hc)) (p2 s2 e_w hx (G.get (q2 ?b36_7 A W 85 hf) hc)) (by exact hcb) (by omega) (by omega)))
      refine ocg 80 ?_ (fun A W hx hf => ?_) ?_
      rfl
      exact gd_f (q1 ?b36_1 A W 80 hf) (fun hc => ok_movE (a0 := a30) (r0 hf))
      refine ocg 80 ?_ (fun A W hx hf => ?_) ?_
      rfl
      exact gd_f (q1 ?b36_1 A W 80 hf) (fun hc => ok_buildBss [(.tmp 87)] [_] Try.underlying44 size22 zero22 rfl rfl (by decide) (PartsOk.cons (OwnB.bs (p2 s10 e_w23 hx (G.get (q0 ?b36_9 A W 87 hf) hc))) (PartsOk.nil)))
      refine ocg 80 ?_ (fun A W hx hf => ?_) ?_
      rfl
      exact gd_f (q1 ?b36_1 A W 80 hf) (fun hc => ok_call1 body10 (c_Sum (G.get (q0 ?b36_10 A W 88 hf) hc)))
      refine ocg 80 ?_ (fun A W hx hf => ?_) ?_
      rfl
      exact gd_f (q2 ?b36_1 A W 80 hf) (fun hc => ok_eql (G.get (q0 ?b36_8 A W 86 hf) hc) (G.get (q1 ?b36_11 A W 89 hf) hc))
      refine oc0 (fun A W hx hf => ?_) ?_
      exact ok_or (q0 ?b36_1 A W 80 hf) (q1 ?b36_12 A W 90 hf)
      refine oc0 (fun A W hx hf => ?_) ?_
      exact ok_assign (q0 ?b36_13 A W 91 hf)
      exact OpsOk.nil
     case t36 => exact inferInstance
     clear hr; intro a37 w37 x hr hd hs
     clear s1 s2 s9 s10 s11 s12 s67
     have s8 := fa ?b36_13 a37 w37 8 (hd 14 8 rfl)
     replace e_w := e_w.trans x
     clear e_w4
     clear e_w15
     clear e_w23
     clear e_w28
     clear hd hs x
     refine exit_then ?_
     refine wp_ret ?_
     refine ret_tmp Try.results8 hr e_w ?_
     first | with_reducible exact s8 | exact Is.bool s8 (by rw [List.take_length]; exact change_end hl.1.2.2.1 hl.2.1 hl.2.2)

end Go.Proofs.Ytaalllmkjobajaa
