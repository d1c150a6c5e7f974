import Derived.Test.YtpjpfmnnefgnbaaY
import Derived.Test.YtpjpfmnnefgnbaaE11M
import Derived.Test.YtpjpfmnnefgnbaaC11
namespace Go.Proofs.Ytpjpfmnnefgnbaa
open Go.RowKit
set_option linter.unusedVariables false
set_option linter.unusedSimpArgs false
set_option maxRecDepth 4000
theorem mend_bytes {l : List UInt8} {k : Nat} {h1 : 14 + 2 * k < (zerod l).length} {h2 : 14 + 2 * k + 1 < (zerod l).length} (_h : k < 10) : sumTo ((zerod l).drop 14) k + 256 * (((zerod l)[14 + 2 * k]'h1).toNat : Int) + (((zerod l)[14 + 2 * k + 1]'h2).toNat : Int) = sumTo ((zerod l).drop 14) (k + 1) := by
  rw [← mend_step, byteAt_get h1, byteAt_get h2]
def D_c_mended_0 : List Tmp := [3, 4, 9, 10, 11, 12, 13, 14, 15, 16, 17, 18, 19, 20, 21, 22, 23, 24, 25, 26, 27]
def D_c_mended_1 : List Tmp := [3, 28, 29, 30, 31]
theorem c_mended {x0 : Value} {w : World} {l : List UInt8} {β B : Nat} (h0 : (OwnBA β B 5 l) x0 w) (hn9 : 34 ≤ l.length) :
    Calls Try.prog 17 #[x0] w (RetW β l (mendL l) (OwnBA β B 5 (mendL l)) w) := by
 have hzl := zerod_len l
 have hlm := hn9
 refine enter Try.func17 rfl Try.ntmps17 (k := 1) rfl (by decide) (fun a0 hr hargs => ?_)
 have s0 := sarg h0 (hargs 0 (by decide))
 have c_w : ChgAt β w w := ChgAt.refl _ _
 have u_w : UpB β l l w w := UpB.refl
 clear hargs
 refine sq ?_
 refine wp_reg 45 [[]] [?b1_0] mixed hr ?t1 ?o1 ?_
 case o1 =>
  apply oc0; intro A W hx hf
  exact ok_assignv (Bs []) (fun _ => bs_nil)
  exact onn
 case t1 => exact inferInstance
 clear hr; intro a2 w2 x hr hd hs
 revert s0; refine kp1 hs rfl ?_; intro s0
 replace c_w := c_w.ext x; replace u_w := u_w.ext x
 have e_w := x; clear hd hs x
 refine es ?_
 refine wp_reg_pre (l := [_, _]) (rest := [_]) 45 [[(0, none)], [(5, some 0)]] [?b3_0, ?b3_1] hr ?t3 ?o3 ?_
 case o3 =>
  apply oc0; intro A W hx hf
  exact ok_movE (a0 := a2) (r0 hf)
  apply oc0; intro A W hx hf
  exact ok_indexA (24) tu22 size5 (p2 s0 e_w hx (q0 ?b3_0 A W 5 hf)) (ec A (.int .i64 24)) (by omega)
  exact onn
 case t3 => exact inferInstance
 clear hr; intro a4 w4 x hr hd hs
 revert s0; refine kp1 hs rfl ?_; intro s0
 have s6 := fa ?b3_1 a4 w4 6 (hd 1 6 rfl)
 replace c_w := c_w.ext x; replace u_w := u_w.ext x
 replace e_w := e_w.trans x; clear hd hs x
 refine wl_storeA hr size5 s6 (show ByteIs 0 _ _ from rfl) ?_; clear hr; intro a5 w5 hc hu hr hs
 revert s0; refine kp1 hs rfl ?_; intro s0
 clear s6
 replace s0 := hu _ _ _ (later e_w s0)
 replace c_w := c_w.trans hc; replace u_w := u_w.trans hu
 clear e_w
 clear hu hs hc
 refine wpList_nil ?_
 refine es ?_
 refine wp_reg_pre (l := [_, _]) (rest := [_]) 45 [[(0, none)], [(7, some 0)]] [?b6_0, ?b6_1] hr ?t6 ?o6 ?_
 case o6 =>
  apply oc0; intro A W hx hf
  exact ok_movE (a0 := a5) (r0 hf)
  apply oc0; intro A W hx hf
  exact ok_indexA (25) tu22 size5 (p1 s0 hx (q0 ?b6_0 A W 7 hf)) (ec A (.int .i64 25)) (by simp; omega)
  exact onn
 case t6 => exact inferInstance
 clear hr; intro a7 w7 x hr hd hs
 revert s0; refine kp1 hs rfl ?_; intro s0
 have s8 := fa ?b6_1 a7 w7 8 (hd 1 8 rfl)
 replace c_w := c_w.ext x; replace u_w := u_w.ext x
 have e_w5 := x; clear hd hs x
 refine wl_storeA hr size5 s8 (show ByteIs 0 _ _ from rfl) ?_; clear hr; intro a8 w8 hc hu hr hs
 revert s0; refine kp1 hs rfl ?_; intro s0
 clear s8
 replace s0 := hu _ _ _ (later e_w5 s0)
 replace c_w := c_w.trans hc; replace u_w := u_w.trans hu
 clear e_w5
 clear hu hs hc
 refine wpList_nil ?_
 replace s0 := OwnBA.cast s0 (show _ = zerod l from rfl)
 replace u_w := u_w.cast (show _ = zerod l from rfl)
 refine es ?_
 refine wp_reg 45 [[]] [?b9_0] mixed hr ?t9 ?o9 ?_
 case o9 =>
  apply oc0; intro A W hx hf
  exact ok_assignc
  exact onn
 case t9 => exact inferInstance
 clear hr; intro a10 w10 x hr hd hs
 revert s0; refine kp1 hs rfl ?_; intro s0
 have s3 := fa ?b9_0 a10 w10 3 (hd 0 3 rfl)
 replace c_w := c_w.ext x; replace u_w := u_w.ext x
 have e_w8 := x; clear hd hs x
 refine es ?_
 refine sq ?_
 refine wp_reg 45 [[]] [?b11_0] mixed hr ?t11 ?o11 ?_
 case o11 =>
  apply oc0; intro A W hx hf
  exact ok_assignc
  exact onn
 case t11 => exact inferInstance
 clear hr; intro a12 w12 x hr hd hs
 revert s3; revert s0; refine kp2 hs rfl ?_; intro s0 s3
 have s4 := fa ?b11_0 a12 w12 4 (hd 0 4 rfl)
 replace c_w := c_w.ext x; replace u_w := u_w.ext x
 replace e_w8 := e_w8.trans x
 have e_w10 := x; clear hd hs x
 refine et ?_
 refine wp_block ?_
 refine wp_loop_inv (fun n A W => ∃ (k : Nat), n = 10 - k ∧ Fr 45 A ∧ Same D_c_mended_0 a12 A ∧ ChgAt β w W ∧ UpB β l (zerod l) w W ∧ (k ≤ 10) ∧ (OwnBA β B 5 (zerod l)) (A.eval (.tmp 0)) W ∧ (Is (.int .i64 (sumTo ((zerod l).drop 14) k))) (A.eval (.tmp 3)) W ∧ (Is (.int .i64 (14 + 2 * (k : Int)))) (A.eval (.tmp 4)) W) ?start13 ?_
 case start13 =>
  refine ⟨_, 0, rfl, hr, Same.rfl, c_w, u_w, (by first | assumption | omega), ?_, ?_, ?_⟩
  · exact (later e_w8 s0)
  · exact (later e_w10 s3)
  · exact s4
 intro n13 a13 w13 hI
 clear e_w8
 clear e_w10
 clear hr c_w u_w; obtain ⟨k, hn13, hr, hs, c_w, u_w, hk9, u0, u3, u4⟩ := hI
 clear s0 s3 s4
 have s0 := u0; clear u0
 have s3 := u3; clear u3
 have s4 := u4; clear u4
 have m13 := hs; clear hs
 refine sq ?_
 refine sq ?_
 refine wp_reg 45 [[(4, none)], [(9, some 0)]] [?b14_0, ?b14_1] mixed hr ?t14 ?o14 ?_
 case o14 =>
  apply oc0; intro A W hx hf
  exact ok_movE (a0 := a13) (r0 hf)
  apply oc0; intro A W hx hf
  exact ok_lss (p1 s4 hx (q0 ?b14_0 A W 9 hf)) (ec A (.int .i64 34))
  exact onn
 case t14 => exact inferInstance
 clear hr; intro a15 w15 x hr hd hs
 revert s4; revert s3; revert s0; refine kp3 hs rfl ?_; intro s0 s3 s4
 have s10 := fa ?b14_1 a15 w15 10 (hd 1 10 rfl)
 replace c_w := c_w.ext x; replace u_w := u_w.ext x
 have e_w13 := x
 replace m13 := m13.tr hs rfl; clear hd hs x
 refine et ?_
 refine wp_cond_split (show _ = _ from s10) (fun hlt => ?_) (fun hlt => ?_)
 ·
  have hlt : k < 10 := by simp at hlt; omega
  have hz1 := byte_bd ((zerod l)[14 + 2 * k]'(by omega))
  have hz2 := byte_bd ((zerod l)[14 + 2 * k + 1]'(by omega))
  have hs1 := sumTo_nonneg ((zerod l).drop 14) k
  have hs2 := sumTo_le ((zerod l).drop 14) k
  refine wp_skip ?_
  refine es ?_
  refine wp_block ?_
  refine wp_reg 45 [[(3, none)], [(0, none)], [(4, none)], [(14, some 1), (15, some 2)], [(16, some 3)], [(17, some 4)], [(18, some 5)], [(13, some 0), (19, some 6)], [(0, none)], [(4, none)], [(22, some 9)], [(21, some 8), (23, some 10)], [(24, some 11)], [(25, some 12)], [(20, some 7), (26, some 13)], [(27, some 14)]] [?b17_0, ?b17_1, ?b17_2, ?b17_3, ?b17_4, ?b17_5, ?b17_6, ?b17_7, ?b17_8, ?b17_9, ?b17_10, ?b17_11, ?b17_12, ?b17_13, ?b17_14, ?b17_14] mixed hr ?t17 ?o17 ?_
  case o17 =>
   apply oc0; intro A W hx hf
   exact ok_movE (a0 := a15) (r0 hf)
   apply oc0; intro A W hx hf
   exact ok_movE (a0 := a15) (r0 hf)
   apply oc0; intro A W hx hf
   exact ok_movE (a0 := a15) (r0 hf)
   apply oc0; intro A W hx hf
   exact ok_index_bs (14 + 2 * k) tu22 size5 (OwnBA.bs (p2 s0 e_w13 hx (q0 ?b17_1 A W 14 hf))) (Is.int (p2 s4 e_w13 hx (q1 ?b17_2 A W 15 hf)) (by omega)) (by omega)
   apply oc0; intro A W hx hf
   exact ok_loadp tu5 rfl (q0 ?b17_3 A W 16 hf)
   apply oc0; intro A W hx hf
   exact ok_convB tu5 tu3 (by decide) (q0 ?b17_4 A W 17 hf)
   apply oc0; intro A W hx hf
   exact ok_mulI (ec A (.int .i64 256)) (q0 ?b17_5 A W 18 hf) (by omega)
   apply oc0; intro A W hx hf
   exact ok_addI (p2 s3 e_w13 hx (q0 ?b17_0 A W 13 hf)) (q1 ?b17_6 A W 19 hf) (by omega)
   apply oc0; intro A W hx hf
   exact ok_movE (a0 := a15) (r0 hf)
   apply oc0; intro A W hx hf
   exact ok_movE (a0 := a15) (r0 hf)
   apply oc0; intro A W hx hf
   exact ok_addI (p2 s4 e_w13 hx (q0 ?b17_9 A W 22 hf)) (ec A (.int .i64 1)) (by omega)
   apply oc0; intro A W hx hf
   exact ok_index_bs (14 + 2 * k + 1) tu22 size5 (OwnBA.bs (p2 s0 e_w13 hx (q0 ?b17_8 A W 21 hf))) (Is.int (q1 ?b17_10 A W 23 hf) (by omega)) (by omega)
   apply oc0; intro A W hx hf
   exact ok_loadp tu5 rfl (q0 ?b17_11 A W 24 hf)
   apply oc0; intro A W hx hf
   exact ok_convB tu5 tu3 (by decide) (q0 ?b17_12 A W 25 hf)
   apply oc0; intro A W hx hf
   exact ok_addI (q0 ?b17_7 A W 20 hf) (q1 ?b17_13 A W 26 hf) (by omega)
   apply oc0; intro A W hx hf
   exact ok_assign (q0 ?b17_14 A W 27 hf)
   exact onn
  case t17 => exact inferInstance
  clear hr; intro a18 w18 x hr hd hs
  revert s4; revert s0; refine kp2 hs rfl ?_; intro s0 s4
  clear s3 s10
  have s3 := fa ?b17_14 a18 w18 3 (hd 15 3 rfl)
  replace c_w := c_w.ext x; replace u_w := u_w.ext x
  replace e_w13 := e_w13.trans x
  replace m13 := m13.tr hs rfl; clear hd hs x
  refine blk_normal ?_
  refine et ?_
  refine wp_reg 45 [[(4, none)], [(11, some 0)], [(12, some 1)]] [?b19_0, ?b19_1, ?b19_1] mixed hr ?t19 ?o19 ?_
  case o19 =>
   apply oc0; intro A W hx hf
   exact ok_movE (a0 := a18) (r0 hf)
   apply oc0; intro A W hx hf
   exact ok_addI (p2 s4 e_w13 hx (q0 ?b19_0 A W 11 hf)) (ec A (.int .i64 2)) (by omega)
   apply oc0; intro A W hx hf
   exact ok_assign (q0 ?b19_1 A W 12 hf)
   exact onn
  case t19 => exact inferInstance
  clear hr; intro a20 w20 x hr hd hs
  revert s3; revert s0; refine kp2 hs rfl ?_; intro s0 s3
  clear s4
  have s4 := fa ?b19_1 a20 w20 4 (hd 2 4 rfl)
  replace c_w := c_w.ext x; replace u_w := u_w.ext x
  replace e_w13 := e_w13.trans x
  have e_w18 := x
  replace m13 := m13.tr hs rfl; clear hd hs x
  refine et ?_
  refine ⟨(fun (k : Nat) => 10 - k) (k + 1), ?_, ?_⟩
  · (try dsimp only); omega
  refine ⟨k + 1, rfl, hr, m13, c_w, u_w, (by first | assumption | omega), ?_, ?_, ?_⟩
  · exact (later e_w13 s0)
  · exact Is.int (later e_w18 s3) (mend_bytes (by omega))
  · exact Is.int s4 (by omega)
 have hlt : k = 10 := by simp at hlt; omega
 subst hlt
 refine wp_exit ?_
 refine then_exit ?_
 refine then_exit ?_
 refine blk_exit ?_
 refine es ?_
 refine wp_block ?_
 refine wp_loop_inv (fun n A W => ∃ (y9 : Int), n = y9.toNat ∧ Fr 45 A ∧ Same D_c_mended_1 a15 A ∧ ChgAt β w W ∧ UpB β l (zerod l) w W ∧ (0 ≤ y9) ∧ (y9 ≤ 655350) ∧ (norm y9 = norm (sumTo ((zerod l).drop 14) 10)) ∧ (OwnBA β B 5 (zerod l)) (A.eval (.tmp 0)) W ∧ (Is (.int .i64 y9)) (A.eval (.tmp 3)) W) ?start21 ?_
 case start21 =>
  refine ⟨_, sumTo ((zerod l).drop 14) 10, rfl, hr, Same.rfl, c_w, u_w, (by exact sumTo_nonneg _ _), (by have := sumTo_le ((zerod l).drop 14) 10; omega), (by rfl), ?_, ?_⟩
  · exact (later e_w13 s0)
  · exact (later e_w13 s3)
 intro n21 a21 w21 hI
 clear e_w13
 clear hr c_w u_w; obtain ⟨y9, hn21, hr, hs, c_w, u_w, hn0, hn1, hnn, u0, u3⟩ := hI
 clear s0 s3 s4 s10
 have s0 := u0; clear u0
 have s3 := u3; clear u3
 have m21 := hs; clear hs
 refine sq ?_
 refine sq ?_
 refine wp_reg 45 [[(3, none)], [(28, some 0)]] [?b22_0, ?b22_1] mixed hr ?t22 ?o22 ?_
 case o22 =>
  apply oc0; intro A W hx hf
  exact ok_movE (a0 := a21) (r0 hf)
  apply oc0; intro A W hx hf
  exact ok_gtr (p1 s3 hx (q0 ?b22_0 A W 28 hf)) (ec A (.int .i64 65535))
  exact onn
 case t22 => exact inferInstance
 clear hr; intro a23 w23 x hr hd hs
 revert s3; revert s0; refine kp2 hs rfl ?_; intro s0 s3
 have s29 := fa ?b22_1 a23 w23 29 (hd 1 29 rfl)
 replace c_w := c_w.ext x; replace u_w := u_w.ext x
 have e_w21 := x
 replace m21 := m21.tr hs rfl; clear hd hs x
 refine et ?_
 refine wp_cond_split (show _ = _ from s29) (fun hgt => ?_) (fun hgt => ?_)
 ·
  have hgt : y9 > 65535 := by simpa using hgt
  refine wp_skip ?_
  refine et ?_
  refine wp_block ?_
  refine wp_reg 45 [[(3, none)], [(30, some 0)], [(31, some 1)]] [?b25_0, ?b25_1, ?b25_1] mixed hr ?t25 ?o25 ?_
  case o25 =>
   apply oc0; intro A W hx hf
   exact ok_movE (a0 := a23) (r0 hf)
   apply oc0; intro A W hx hf
   exact ok_subI (p2 s3 e_w21 hx (q0 ?b25_0 A W 30 hf)) (ec A (.int .i64 65535)) (by omega)
   apply oc0; intro A W hx hf
   exact ok_assign (q0 ?b25_1 A W 31 hf)
   exact onn
  case t25 => exact inferInstance
  clear hr; intro a26 w26 x hr hd hs
  revert s0; refine kp1 hs rfl ?_; intro s0
  clear s3 s29
  have s3 := fa ?b25_1 a26 w26 3 (hd 2 3 rfl)
  replace c_w := c_w.ext x; replace u_w := u_w.ext x
  replace e_w21 := e_w21.trans x
  replace m21 := m21.tr hs rfl; clear hd hs x
  refine blk_normal ?_
  refine et ?_
  refine ⟨(fun (y9 : Int) => y9.toNat) (y9 - 65535), ?_, ?_⟩
  · (try dsimp only); omega
  refine ⟨y9 - 65535, rfl, hr, m21, c_w, u_w, (by omega), (by omega), (by exact mend_less hgt hnn), ?_, ?_⟩
  · exact (later e_w21 s0)
  · exact s3
 have hgt : ¬ y9 > 65535 := by simpa using hgt
 refine wp_exit ?_
 refine then_exit ?_
 refine then_exit ?_
 refine blk_exit ?_
 refine es ?_
 refine wp_reg 45 [[(3, none)], [(32, some 0)], [(33, some 1)]] [?b27_0, ?b27_1, ?b27_1] mixed hr ?t27 ?o27 ?_
 case o27 =>
  apply oc0; intro A W hx hf
  exact ok_movE (a0 := a23) (r0 hf)
  apply oc0; intro A W hx hf
  exact ok_subI (ec A (.int .i64 65535)) (p2 s3 e_w21 hx (q0 ?b27_0 A W 32 hf)) (by omega)
  apply oc0; intro A W hx hf
  exact ok_assign (q0 ?b27_1 A W 33 hf)
  exact onn
 case t27 => exact inferInstance
 clear hr; intro a28 w28 x hr hd hs
 revert s0; refine kp1 hs rfl ?_; intro s0
 clear s3 s29
 have s3 := fa ?b27_1 a28 w28 3 (hd 2 3 rfl)
 replace c_w := c_w.ext x; replace u_w := u_w.ext x
 replace e_w21 := e_w21.trans x; clear hd hs x
 replace s3 := Is.int s3 (mend_last2 hn9 hn0 hgt hnn)
 have hmb := mendS_bd l
 refine es ?_
 refine wp_reg_pre (l := [_, _, _, _, _]) (rest := [_]) 45 [[(0, none)], [(3, none)], [(35, some 1)], [(36, some 2)], [(34, some 0)]] [?b29_0, ?b29_1, ?b29_2, ?b29_3, ?b29_4] hr ?t29 ?o29 ?_
 case o29 =>
  apply oc0; intro A W hx hf
  exact ok_movE (a0 := a28) (r0 hf)
  apply oc0; intro A W hx hf
  exact ok_movE (a0 := a28) (r0 hf)
  apply oc0; intro A W hx hf
  exact ok_quo (by decide) (p1 s3 hx (q0 ?b29_1 A W 35 hf)) (ec A (.int .i64 256))
  apply oc0; intro A W hx hf
  exact ok_conv8 tu3 tu5 (q0 ?b29_2 A W 36 hf)
  apply oc0; intro A W hx hf
  exact ok_indexA (24) tu22 size5 (p2 s0 e_w21 hx (q0 ?b29_0 A W 34 hf)) (ec A (.int .i64 24)) (by omega)
  exact onn
 case t29 => exact inferInstance
 clear hr; intro a30 w30 x hr hd hs
 revert s3; revert s0; refine kp2 hs rfl ?_; intro s0 s3
 have s37 := fa ?b29_3 a30 w30 37 (hd 3 37 rfl)
 have s38 := fa ?b29_4 a30 w30 38 (hd 4 38 rfl)
 replace c_w := c_w.ext x; replace u_w := u_w.ext x
 replace e_w21 := e_w21.trans x
 have e_w28 := x; clear hd hs x
 refine wl_storeA hr size5 s38 s37 ?_; clear hr; intro a31 w31 hc hu hr hs
 revert s3; revert s0; refine kp2 hs rfl ?_; intro s0 s3
 clear s37 s38
 replace s0 := hu _ _ _ (later e_w21 s0)
 replace c_w := c_w.trans hc; replace u_w := u_w.trans hu
 clear e_w21
 clear e_w28
 replace s3 := anyw (w2 := w31) s3
 clear hu hs hc
 refine wpList_nil ?_
 refine es ?_
 refine wp_reg_pre (l := [_, _, _, _, _]) (rest := [_]) 45 [[(0, none)], [(3, none)], [(40, some 1)], [(41, some 2)], [(39, some 0)]] [?b32_0, ?b32_1, ?b32_2, ?b32_3, ?b32_4] hr ?t32 ?o32 ?_
 case o32 =>
  apply oc0; intro A W hx hf
  exact ok_movE (a0 := a31) (r0 hf)
  apply oc0; intro A W hx hf
  exact ok_movE (a0 := a31) (r0 hf)
  apply oc0; intro A W hx hf
  exact ok_rem (by decide) (p1 s3 hx (q0 ?b32_1 A W 40 hf)) (ec A (.int .i64 256))
  apply oc0; intro A W hx hf
  exact ok_conv8 tu3 tu5 (q0 ?b32_2 A W 41 hf)
  apply oc0; intro A W hx hf
  exact ok_indexA (25) tu22 size5 (p1 s0 hx (q0 ?b32_0 A W 39 hf)) (ec A (.int .i64 25)) (by simp; omega)
  exact onn
 case t32 => exact inferInstance
 clear hr; intro a33 w33 x hr hd hs
 revert s0; refine kp1 hs rfl ?_; intro s0
 clear s3
 have s42 := fa ?b32_3 a33 w33 42 (hd 3 42 rfl)
 have s43 := fa ?b32_4 a33 w33 43 (hd 4 43 rfl)
 replace c_w := c_w.ext x; replace u_w := u_w.ext x
 have e_w31 := x; clear hd hs x
 refine wl_storeA hr size5 s43 s42 ?_; clear hr; intro a34 w34 hc hu hr hs
 revert s0; refine kp1 hs rfl ?_; intro s0
 clear s42 s43
 replace s0 := hu _ _ _ (later e_w31 s0)
 replace c_w := c_w.trans hc; replace u_w := u_w.trans hu
 clear e_w31
 clear hu hs hc
 refine wpList_nil ?_
 replace s0 := OwnBA.cast s0 (show _ = mendL l from mend_two)
 replace u_w := u_w.cast (show _ = mendL l from mend_two)
 refine es ?_
 refine wp_reg 45 [[(0, none)], [(44, some 0)]] [?b35_0, ?b35_0] mixed hr ?t35 ?o35 ?_
 case o35 =>
  apply oc0; intro A W hx hf
  exact ok_movE (a0 := a34) (r0 hf)
  apply oc0; intro A W hx hf
  exact ok_assign (q0 ?b35_0 A W 44 hf)
  exact onn
 case t35 => exact inferInstance
 clear hr; intro a36 w36 x hr hd hs
 have u2 := mv s0 (fa ?b35_0 a36 w36 2 (hd 1 2 rfl))
 clear s0
 have s2 := u2; clear u2
 replace c_w := c_w.ext x; replace u_w := u_w.ext x
 have e_w34 := x; clear hd hs x
 refine et ?_
 refine wp_ret ?_
 refine ret_w1 Try.results17 hr c_w (u_w) ?_
 exact (later e_w34 s2)

end Go.Proofs.Ytpjpfmnnefgnbaa
