import Derived.Test.YtpjpfmnnefgnbaaC01
import Derived.Test.YtpjpfmnnefgnbaaC06
namespace Go.Proofs.Ytpjpfmnnefgnbaa
open Go.RowKit
set_option linter.unusedVariables false
set_option linter.unusedSimpArgs false
set_option maxRecDepth 4000
def D_c_IndexFunc_0 : List Tmp := [4, 5, 8, 9, 10, 11, 12, 13, 14, 15, 16, 17, 18]
theorem c_IndexFunc {x0 x1 : Value} {w : World} {l : List UInt8} {q : FuncId} {pr : UInt8 → Bool} (h0 : (Bs l) x0 w) (h1 : (Is (FnV q)) x1 w) (bd9 : Body Try.prog q) (cl9 : ∀ (c : UInt8) x w, ByteIs c x w → Calls Try.prog q #[x] w (Ret (Is (.bool (pr c))) w)) :
    Calls Try.prog 89 #[x0, x1] w (Ret (Is (.int .i64 (ixf pr l))) w) := by
 have hlen := Bs.len_le h0
 refine enter Try.func89 rfl Try.ntmps89 (k := 2) rfl (by decide) (fun a0 hr hargs => ?_)
 have s0 := sarg h0 (hargs 0 (by decide))
 have s1 := sarg h1 (hargs 1 (by decide))
 clear hargs
 refine sq ?_
 refine wp_reg 19 [[]] [?b1_0] mixed hr ?t1 ?o1 ?_
 case o1 =>
  apply oc0; intro A W hx hf
  exact ok_assignc
  exact onn
 case t1 => exact inferInstance
 clear hr; intro a2 w2 x hr hd hs
 revert s1; revert s0; refine kp2 hs rfl ?_; intro s0 s1
 have e_w := x; clear hd hs x
 refine es ?_
 refine sq ?_
 refine wp_reg 19 [[(0, none)], [(6, some 0)], []] [?b3_0, ?b3_1, ?b3_2] mixed hr ?t3 ?o3 ?_
 case o3 =>
  apply oc0; intro A W hx hf
  exact ok_movE (a0 := a2) (r0 hf)
  apply oc0; intro A W hx hf
  exact ok_len_bs tu22 (p2 s0 e_w hx (q0 ?b3_0 A W 6 hf))
  apply oc0; intro A W hx hf
  exact ok_movec
  exact onn
 case t3 => exact inferInstance
 clear hr; intro a4 w4 x hr hd hs
 revert s1; revert s0; refine kp2 hs rfl ?_; intro s0 s1
 have s7 := fa ?b3_1 a4 w4 7 (hd 1 7 rfl)
 have s8 := fa ?b3_2 a4 w4 8 (hd 2 8 rfl)
 replace e_w := e_w.trans x; clear hd hs x
 refine et ?_
 refine wp_block ?_
 refine wp_loop_inv (fun n A W => ∃ (i : Nat), n = l.length - i ∧ Fr 19 A ∧ Same D_c_IndexFunc_0 a4 A ∧ Ext w W ∧ Ext w4 W ∧ (i ≤ l.length) ∧ ((l.take i).any pr = false) ∧ (Is (.int .i64 (i : Int))) (A.eval (.tmp 8)) W) ?start5 ?_
 case start5 =>
  refine ⟨_, 0, rfl, hr, Same.rfl, e_w, (Ext.refl _), (by omega), (by simp), ?_⟩
  · exact s8
 intro n5 a5 w5 hI
 clear e_w
 clear hr; obtain ⟨i, hn5, hr, hs, e_w, e_w4, hi, hp, u8⟩ := hI
 revert s7; revert s1; revert s0; refine kp3 hs rfl ?_; intro s0 s1 s7
 clear s8
 have s8 := u8; clear u8
 have m5 := hs; clear hs
 refine sq ?_
 refine wp_reg 19 [[(8, none), (7, none)]] [?b6_0] mixed hr ?t6 ?o6 ?_
 case o6 =>
  apply oc0; intro A W hx hf
  exact ok_lss (o1 s8 hx (r0 hf)) (o2 s7 e_w4 hx (r1 hf))
  exact onn
 case t6 => exact inferInstance
 clear hr; intro a7 w7 x hr hd hs
 revert s8; revert s7; revert s1; revert s0; refine kp4 hs rfl ?_; intro s0 s1 s7 s8
 have s9 := fa ?b6_0 a7 w7 9 (hd 0 9 rfl)
 replace e_w := e_w.trans x
 replace e_w4 := e_w4.trans x
 have e_w5 := x
 replace m5 := m5.tr hs rfl; clear hd hs x
 refine es ?_
 refine wp_cond_split (show _ = _ from s9) (fun hlt => ?_) (fun hlt => ?_)
 ·
  have hlt : i < l.length := by simp at hlt; omega
  refine wp_skip ?_
  refine es ?_
  refine wp_block ?_
  refine sq ?_
  refine wp_reg 19 [[(8, none)], [(10, some 0)]] [?b9_0, ?b9_0] mixed hr ?t9 ?o9 ?_
  case o9 =>
   apply oc0; intro A W hx hf
   exact ok_movE (a0 := a7) (r0 hf)
   apply oc0; intro A W hx hf
   exact ok_assign (q0 ?b9_0 A W 10 hf)
   exact onn
  case t9 => exact inferInstance
  clear hr; intro a10 w10 x hr hd hs
  have u5 := mv s8 (fa ?b9_0 a10 w10 5 (hd 1 5 rfl))
  revert s8; revert s7; revert s1; revert s0; refine kp4 hs rfl ?_; intro s0 s1 s7 s8
  clear s9
  have s5 := u5; clear u5
  replace e_w := e_w.trans x
  replace e_w4 := e_w4.trans x
  replace e_w5 := e_w5.trans x
  replace m5 := m5.tr hs rfl; clear hd hs x
  refine es ?_
  refine wp_reg 19 [[(1, none)], [(0, none)], [(5, none)], [(12, some 1), (13, some 2)], [(14, some 3)], [(11, some 0), (15, some 4)]] [?b11_0, ?b11_1, ?b11_2, ?b11_3, ?b11_4, ?b11_5] mixed hr ?t11 ?o11 ?_
  case o11 =>
   apply oc0; intro A W hx hf
   exact ok_movE (a0 := a10) (r0 hf)
   apply oc0; intro A W hx hf
   exact ok_movE (a0 := a10) (r0 hf)
   apply oc0; intro A W hx hf
   exact ok_movE (a0 := a10) (r0 hf)
   apply oc0; intro A W hx hf
   exact ok_index_bs (_) tu22 size5 (p2 s0 e_w hx (q0 ?b11_1 A W 12 hf)) (p2 s5 e_w5 hx (q1 ?b11_2 A W 13 hf)) (by first | omega | decide | (simp; done) | (simp; omega))
   apply oc0; intro A W hx hf
   exact ok_loadp tu5 rfl (q0 ?b11_3 A W 14 hf)
   apply oc0; intro A W hx hf
   exact ok_callf1 (p2 s1 e_w hx (q0 ?b11_0 A W 11 hf)) bd9 (cl9 _ _ _ (q1 ?b11_4 A W 15 hf))
   exact onn
  case t11 => exact inferInstance
  clear hr; intro a12 w12 x hr hd hs
  revert s5; revert s8; revert s7; revert s1; revert s0; refine kp5 hs rfl ?_; intro s0 s1 s7 s8 s5
  have s16 := fa ?b11_5 a12 w12 16 (hd 5 16 rfl)
  replace e_w := e_w.trans x
  replace e_w4 := e_w4.trans x
  replace e_w5 := e_w5.trans x
  replace m5 := m5.tr hs rfl; clear hd hs x
  refine et ?_
  refine wp_cond_split (show _ = _ from s16) (fun hm => ?_) (fun hm => ?_)
  ·
   skip
   refine sq ?_
   refine wp_reg 19 [[(5, none)], [(17, some 0)]] [?b14_0, ?b14_0] mixed hr ?t14 ?o14 ?_
   case o14 =>
    apply oc0; intro A W hx hf
    exact ok_movE (a0 := a12) (r0 hf)
    apply oc0; intro A W hx hf
    exact ok_assign (q0 ?b14_0 A W 17 hf)
    exact onn
   case t14 => exact inferInstance
   clear hr; intro a15 w15 x hr hd hs
   have u4 := mv s5 (fa ?b14_0 a15 w15 4 (hd 1 4 rfl))
   clear s0 s1 s7 s8 s5 s16
   have s4 := u4; clear u4
   replace e_w := e_w.trans x
   clear e_w4
   replace e_w5 := e_w5.trans x
   replace m5 := m5.tr hs rfl; clear hd hs x
   refine et ?_
   refine wp_ret ?_
   refine blk_ret ?_
   refine then_ret ?_
   refine then_ret ?_
   refine blk_ret ?_
   refine then_ret ?_
   refine ret_tmp Try.results89 hr e_w ?_
   first | exact Is.int (later e_w5 s4) (ixf_some hlt hp hm).symm | exact Is.int (later e_w5 s4) (ixf_none (by rw [← hp, List.take_length])).symm
  skip
  refine wp_skip ?_
  refine blk_normal ?_
  refine et ?_
  refine wp_reg 19 [[(8, none)], [(18, some 0)]] [?b16_0, ?b16_0] mixed hr ?t16 ?o16 ?_
  case o16 =>
   apply oc0; intro A W hx hf
   exact ok_addI (o2 s8 e_w5 hx (r0 hf)) (ec A (.int .i64 1)) (by omega)
   apply oc0; intro A W hx hf
   exact ok_move (q0 ?b16_0 A W 18 hf)
   exact onn
  case t16 => exact inferInstance
  clear hr; intro a17 w17 x hr hd hs
  revert s7; revert s1; revert s0; refine kp3 hs rfl ?_; intro s0 s1 s7
  clear s8 s5 s16
  have s8 := fa ?b16_0 a17 w17 8 (hd 1 8 rfl)
  replace e_w := e_w.trans x
  replace e_w4 := e_w4.trans x
  clear e_w5
  replace m5 := m5.tr hs rfl; clear hd hs x
  refine et ?_
  refine ⟨(fun (i : Nat) => l.length - i) (i + 1), ?_, ?_⟩
  · (try dsimp only); omega
  refine ⟨i + 1, rfl, hr, m5, e_w, e_w4, (by omega), (by exact any_take hlt hp hm), ?_⟩
  · exact s8
 have hlt : i = l.length := by simp at hlt; omega
 subst hlt
 refine wp_exit ?_
 refine then_exit ?_
 refine then_exit ?_
 refine blk_exit ?_
 refine es ?_
 refine wp_reg 19 [[]] [?b18_0] mixed hr ?t18 ?o18 ?_
 case o18 =>
  apply oc0; intro A W hx hf
  exact ok_assignc
  exact onn
 case t18 => exact inferInstance
 clear hr; intro a19 w19 x hr hd hs
 clear s0 s1 s7 s8 s9
 have s4 := fa ?b18_0 a19 w19 4 (hd 0 4 rfl)
 replace e_w := e_w.trans x
 clear e_w4
 clear e_w5; clear hd hs x
 refine et ?_
 refine wp_ret ?_
 refine ret_tmp Try.results89 hr e_w ?_
 first | exact Is.int s4 (ixf_some hlt hp hm).symm | exact Is.int s4 (ixf_none (by rw [← hp, List.take_length])).symm

theorem c_ContainsFunc {x0 x1 : Value} {w : World} {l : List UInt8} {q : FuncId} {pr : UInt8 → Bool} (h0 : (Bs l) x0 w) (h1 : (Is (FnV q)) x1 w) (bd9 : Body Try.prog q) (cl9 : ∀ (c : UInt8) x w, ByteIs c x w → Calls Try.prog q #[x] w (Ret (Is (.bool (pr c))) w)) :
    Calls Try.prog 81 #[x0, x1] w (Ret (Is (.bool (l.any pr))) w) := by
 refine enter Try.func81 rfl Try.ntmps81 (k := 2) rfl (by decide) (fun a0 hr hargs => ?_)
 have s0 := sarg h0 (hargs 0 (by decide))
 have s1 := sarg h1 (hargs 1 (by decide))
 clear hargs
 refine sq ?_
 refine wp_reg 9 [[]] [?b1_0] mixed hr ?t1 ?o1 ?_
 case o1 =>
  apply oc0; intro A W hx hf
  exact ok_assignc
  exact onn
 case t1 => exact inferInstance
 clear hr; intro a2 w2 x hr hd hs
 revert s1; revert s0; refine kp2 hs rfl ?_; intro s0 s1
 have e_w := x; clear hd hs x
 refine es ?_
 refine wp_reg 9 [[(0, none)], [(1, none)], [(5, some 0), (6, some 1)], [(7, some 2)], [(8, some 3)]] [?b3_0, ?b3_1, ?b3_2, ?b3_3, ?b3_3] mixed hr ?t3 ?o3 ?_
 case o3 =>
  apply oc0; intro A W hx hf
  exact ok_movE (a0 := a2) (r0 hf)
  apply oc0; intro A W hx hf
  exact ok_movE (a0 := a2) (r0 hf)
  apply oc0; intro A W hx hf
  exact ok_call2 body89 (c_IndexFunc (p2 s0 e_w hx (q0 ?b3_0 A W 5 hf)) (p2 s1 e_w hx (q1 ?b3_1 A W 6 hf)) (by assumption) (by assumption))
  apply oc0; intro A W hx hf
  exact ok_geq (q0 ?b3_2 A W 7 hf) (ec A (.int .i64 0))
  apply oc0; intro A W hx hf
  exact ok_assign (q0 ?b3_3 A W 8 hf)
  exact onn
 case t3 => exact inferInstance
 clear hr; intro a4 w4 x hr hd hs
 clear s0 s1
 have s4 := fa ?b3_3 a4 w4 4 (hd 4 4 rfl)
 replace e_w := e_w.trans x; clear hd hs x
 refine et ?_
 refine wp_ret ?_
 refine ret_tmp Try.results81 hr e_w ?_
 exact Is.bool s4 (ixf_ge _ _)

theorem c_short1 {x0 : Value} {w : World} {c : UInt8} (h0 : (ByteIs c) x0 w)  :
    Calls Try.prog 86 #[x0] w (Ret (Is (.bool (c != 0))) w) := by
 refine enter Try.func86 rfl Try.ntmps86 (k := 1) rfl (by decide) (fun a0 hr hargs => ?_)
 have s0 := sarg h0 (hargs 0 (by decide))
 clear hargs
 refine sq ?_
 refine wp_reg 5 [[]] [?b1_0] mixed hr ?t1 ?o1 ?_
 case o1 =>
  apply oc0; intro A W hx hf
  exact ok_assignc
  exact onn
 case t1 => exact inferInstance
 clear hr; intro a2 w2 x hr hd hs
 revert s0; refine kp1 hs rfl ?_; intro s0
 have e_w := x; clear hd hs x
 refine es ?_
 refine wp_reg 5 [[(0, none)], [(3, some 0)], [(4, some 1)]] [?b3_0, ?b3_1, ?b3_1] mixed hr ?t3 ?o3 ?_
 case o3 =>
  apply oc0; intro A W hx hf
  exact ok_movE (a0 := a2) (r0 hf)
  apply oc0; intro A W hx hf
  exact ok_neq (p2 s0 e_w hx (q0 ?b3_0 A W 3 hf)) (ec A (.int .u8 0))
  apply oc0; intro A W hx hf
  exact ok_assign (q0 ?b3_1 A W 4 hf)
  exact onn
 case t3 => exact inferInstance
 clear hr; intro a4 w4 x hr hd hs
 clear s0
 have s2 := fa ?b3_1 a4 w4 2 (hd 2 2 rfl)
 replace e_w := e_w.trans x; clear hd hs x
 refine et ?_
 refine wp_ret ?_
 refine ret_tmp Try.results86 hr e_w ?_
 exact Is.bool s2 (nz_int c)

theorem c_two {x0 x1 : Value} {w : World} {l : List UInt8} {z : Int} (h0 : (Bs l) x0 w) (h1 : (Is (.int .i64 z)) x1 w) (hz0 : 0 ≤ z) (hz1 : z.toNat + 2 ≤ l.length) :
    Calls Try.prog 73 #[x0, x1] w (Ret (Is (.int .i64 (wordAt l z.toNat))) w) := by
 have hlen := Bs.len_le h0
 obtain ⟨i, rfl⟩ : ∃ i : Nat, z = (i : Int) := ⟨z.toNat, by omega⟩
 simp only [Int.toNat_natCast] at hz1 ⊢
 have hbe := be_two hz1
 have hw := wordAt_bd l i
 have h8 : (subl l i (i + 2)).take 8 = subl l i (i + 2) := List.take_of_length_le (by simp [subl]; omega)
 refine enter Try.func73 rfl Try.ntmps73 (k := 2) rfl (by decide) (fun a0 hr hargs => ?_)
 have s0 := sarg h0 (hargs 0 (by decide))
 have s1 := sarg h1 (hargs 1 (by decide))
 clear hargs
 refine sq ?_
 refine wp_reg 12 [[]] [?b1_0] mixed hr ?t1 ?o1 ?_
 case o1 =>
  apply oc0; intro A W hx hf
  exact ok_assignc
  exact onn
 case t1 => exact inferInstance
 clear hr; intro a2 w2 x hr hd hs
 revert s1; revert s0; refine kp2 hs rfl ?_; intro s0 s1
 have e_w := x; clear hd hs x
 refine es ?_
 refine wp_reg 12 [[(0, none)], [(1, none)], [(1, none)], [(7, some 2)], [(5, some 0), (6, some 1), (8, some 3)], [(9, some 4)], [(10, some 5)], [(11, some 6)]] [?b3_0, ?b3_1, ?b3_2, ?b3_3, ?b3_4, ?b3_5, ?b3_6, ?b3_6] mixed hr ?t3 ?o3 ?_
 case o3 =>
  apply oc0; intro A W hx hf
  exact ok_movE (a0 := a2) (r0 hf)
  apply oc0; intro A W hx hf
  exact ok_movE (a0 := a2) (r0 hf)
  apply oc0; intro A W hx hf
  exact ok_movE (a0 := a2) (r0 hf)
  apply oc0; intro A W hx hf
  exact ok_addI (p2 s1 e_w hx (q0 ?b3_2 A W 7 hf)) (ec A (.int .i64 2)) (by omega)
  apply oc0; intro A W hx hf
  exact ok_slice_lh (i) (i + 2) tu22 size5 (p2 s0 e_w hx (q0 ?b3_0 A W 5 hf)) (p2 s1 e_w hx (q1 ?b3_1 A W 6 hf)) (Is.int (q2 ?b3_3 A W 8 hf) (by omega)) (by first | omega | decide | (simp; done) | (simp; omega)) (by first | omega | decide | (simp; done) | (simp; omega))
  apply oc0; intro A W hx hf
  exact ok_call2 body72 (c_Get (q0 ?b3_4 A W 9 hf) (show Is (.bool true) (A.eval (.const (.bool true))) _ from rfl))
  apply oc0; intro A W hx hf
  exact ok_convI tu105 tu3 (by rw [h8, hbe]; exact IntWalk.i64_in _ (by omega)) (q0 ?b3_5 A W 10 hf)
  apply oc0; intro A W hx hf
  exact ok_assign (q0 ?b3_6 A W 11 hf)
  exact onn
 case t3 => exact inferInstance
 clear hr; intro a4 w4 x hr hd hs
 clear s0 s1
 have s4 := fa ?b3_6 a4 w4 4 (hd 7 4 rfl)
 replace e_w := e_w.trans x; clear hd hs x
 refine et ?_
 refine wp_ret ?_
 refine ret_tmp Try.results73 hr e_w ?_
 exact Is.int s4 (by rw [h8, hbe])

theorem c_addr {x0 : Value} {w : World} {l : List UInt8} (h0 : (Bs l) x0 w) (hl : 4 ≤ l.length) :
    Calls Try.prog 75 #[x0] w (Ret (Is (AdrV (adr4 l 0))) w) := by
 refine enter Try.func75 rfl Try.ntmps75 (k := 1) rfl (by decide) (fun a0 hr hargs => ?_)
 have s0 := sarg h0 (hargs 0 (by decide))
 clear hargs
 refine sq ?_
 refine wp_reg 9 [[]] [?b1_0] mixed hr ?t1 ?o1 ?_
 case o1 =>
  apply oc0; intro A W hx hf
  exact ok_allocS [adrCells adr0] [17] zerov26 (by rfl) (by rfl) hx.size
  exact onn
 case t1 => exact inferInstance
 clear hr; intro a2 w2 x hr hd hs
 revert s0; refine kp1 hs rfl ?_; intro s0
 have s2 := fa ?b1_0 a2 w2 2 (hd 0 2 rfl)
 obtain ⟨g2_2, q2_2⟩ := PxN.at s2; clear s2; have n2_2 := PxS.lt q2_2
 have s2 := q2_2; clear q2_2
 have e_w := x; clear hd hs x
 refine es ?_
 refine wp_reg 9 [[]] [?b3_0] mixed hr ?t3 ?o3 ?_
 case o3 =>
  apply oc0; intro A W hx hf
  exact ok_allocS [[.bool false], (List.replicate 16 0).map byteV] [1, 16] zerov26 (by rfl) (by rfl) hx.size
  exact onn
 case t3 => exact inferInstance
 clear hr; intro a4 w4 x hr hd hs
 have z_w_w2 := e_w.size
 have l4_2 := PxS.lt s2
 revert s2; revert s0; refine kp2 hs rfl ?_; intro s0 s2
 have s3 := fa ?b3_0 a4 w4 3 (hd 0 3 rfl)
 obtain ⟨g4_3, q4_3⟩ := PxN.at s3; clear s3; have n4_3 := PxS.lt q4_3
 replace q4_3 := PxS.mono q4_3 e_w.size
 have s3 := q4_3; clear q4_3
 replace e_w := e_w.trans x
 have e_w2 := x; clear hd hs x
 refine es ?_
 refine wp_reg_pre (l := [_, _, _]) (rest := [_]) 9 [[(3, none)], [(4, some 0)], [(0, none)]] [?b5_0, ?b5_1, ?b5_2] hr ?t5 ?o5 ?_
 case o5 =>
  apply oc0; intro A W hx hf
  exact ok_fieldS 1 tu26 (k := 1) rfl size24 rfl (o1 s3 hx (r0 hf)) rfl
  apply oc0; intro A W hx hf
  exact ok_sliceSh (4) tu24 size5 (q0 ?b5_0 A W 4 hf) rfl (ec A (.int .i64 4)) (by first | omega | decide | (simp; done) | (simp; omega))
  apply oc0; intro A W hx hf
  exact ok_movE (a0 := a4) (r0 hf)
  exact onn
 case t5 => exact inferInstance
 clear hr; intro a6 w6 x hr hd hs
 have u6 := mv s0 (fa ?b5_2 a6 w6 6 (hd 2 6 rfl))
 revert s3; revert s2; refine kp2 hs rfl ?_; intro s2 s3
 clear s0
 have s6 := u6; clear u6
 have s5 := fa ?b5_1 a6 w6 5 (hd 1 5 rfl)
 replace e_w := e_w.trans x
 replace e_w2 := e_w2.trans x
 have e_w4 := x; clear hd hs x
 have z7 := SxS.lt s5
 have l7 := (show (g4_3 = 0 ∨ w.heap.size < g4_3) ∧ True from ⟨by omega, trivial⟩)
 have l7_2 := PxS.lt (later e_w2 s2)
 refine wl_copyS hr tu22 size5 s5 rfl (later e_w s6) ?_; clear hr; intro a7 w7 hc hu hr hs
 have hb : Below w.heap.size w6 w7 := hc.below e_w.size l7.1
 revert s3; revert s2; refine kp2 hs rfl ?_; intro s2 s3
 clear s6 s5
 replace s2 := PxS.other (later e_w2 s2) hc (by omega)
 replace s3 := hu _ _ _ (later e_w4 s3)
 try simp only [List.set_cons_zero, List.set_cons_succ] at s3
 replace e_w := e_w.below (Nat.le_refl _) hb
 clear e_w2
 clear e_w4
 clear hu hs hc hb
 refine wpList_nil ?_
 refine es ?_
 refine wp_reg_pre (l := [_]) (rest := [_]) 9 [[(3, none)]] [?b8_0] hr ?t8 ?o8 ?_
 case o8 =>
  apply oc0; intro A W hx hf
  exact ok_loadAggS 2 tu26 rfl size26 (o1 s3 hx (r0 hf)) rfl
  exact onn
 case t8 => exact inferInstance
 clear hr; intro a9 w9 x hr hd hs
 revert s2; refine kp1 hs rfl ?_; intro s2
 clear s3
 have s8 := fa ?b8_0 a9 w9 8 (hd 0 8 rfl)
 replace e_w := e_w.trans x
 have e_w7 := x; clear hd hs x
 have z10 := PxS.lt (later e_w7 s2)
 have l10 := (show (g2_2 = 0 ∨ w.heap.size < g2_2) ∧ True from ⟨by omega, trivial⟩)
 refine wl_storeSn hr size26 (later e_w7 s2) s8 (by simp [cpy]; omega) (by intro u hu; simp at hu; rcases hu with rfl | ⟨c, _, rfl⟩ <;> rfl) rfl ?_; clear hr; intro a10 w10 hc hu hr hs
 have hb : Below w.heap.size w9 w10 := hc.below e_w.size l10.1
 revert s2; refine kp1 hs rfl ?_; intro s2
 clear s8
 replace s2 := hu _ _ _ (later e_w7 s2)
 try simp only [List.set_cons_zero, List.set_cons_succ] at s2
 replace e_w := e_w.below (Nat.le_refl _) hb
 clear e_w7
 clear hu hs hc hb
 refine wpList_nil ?_
 refine et ?_
 refine wp_ret ?_
 refine ret_cell Try.results75 hr tu26 rfl size26 s2 e_w ?_
 exact (show Value.agg _ = _ from by simp [AdrV, adrCells, adr4, cpy, show min 4 l.length = 4 from by omega])

def D_c_four_Read_0 : List Tmp := [21, 27, 28]
theorem c_four_Read {x0 : Value} {w : World} {l : List UInt8} (h0 : (Bs l) x0 w)  :
    Calls Try.prog 48 #[x0] w (Ret (Tup2 (Is (FourV (fourRead l).1)) (Is (.int .i64 (fourRead l).2))) w) := by
 have hlen := Bs.len_le h0
 have b0 := byteAt_bd l 0
 have w2 := wordAt_bd l 2
 have w6 := wordAt_bd l 6
 refine enter Try.func48 rfl Try.ntmps48 (k := 1) rfl (by decide) (fun a0 hr hargs => ?_)
 have s0 := sarg h0 (hargs 0 (by decide))
 clear hargs
 refine sq ?_
 refine wp_reg 84 [[], []] [?b1_0, ?b1_1] mixed hr ?t1 ?o1 ?_
 case o1 =>
  apply oc0; intro A W hx hf
  exact ok_allocS [(fourS four0).flatten] [42] zerov71 (by rfl) (by rfl) hx.size
  apply oc0; intro A W hx hf
  exact ok_assignc
  exact onn
 case t1 => exact inferInstance
 clear hr; intro a2 w2 x hr hd hs
 revert s0; refine kp1 hs rfl ?_; intro s0
 have s2 := fa ?b1_0 a2 w2 2 (hd 0 2 rfl)
 obtain ⟨g2_2, q2_2⟩ := PxN.at s2; clear s2; have n2_2 := PxS.lt q2_2
 have s2 := q2_2; clear q2_2
 have e_w := x; clear hd hs x
 refine es ?_
 refine sq ?_
 refine wp_reg 84 [[(0, none)], [(7, some 0)], [(8, some 1)]] [?b3_0, ?b3_1, ?b3_2] mixed hr ?t3 ?o3 ?_
 case o3 =>
  apply oc0; intro A W hx hf
  exact ok_movE (a0 := a2) (r0 hf)
  apply oc0; intro A W hx hf
  exact ok_len_bs tu22 (p2 s0 e_w hx (q0 ?b3_0 A W 7 hf))
  apply oc0; intro A W hx hf
  exact ok_lss (q0 ?b3_1 A W 8 hf) (ec A (.int .i64 20))
  exact onn
 case t3 => exact inferInstance
 clear hr; intro a4 w4 x hr hd hs
 revert s2; revert s0; refine kp2 hs rfl ?_; intro s0 s2
 have s9 := fa ?b3_2 a4 w4 9 (hd 2 9 rfl)
 replace e_w := e_w.trans x
 have e_w2 := x; clear hd hs x
 refine et ?_
 refine wp_cond_split (show _ = _ from s9) (fun hl => ?_) (fun hl => ?_)
 ·
  have hl : l.length < 20 := by simp at hl; omega
  have hrd : fourRead l = (four0, 2) := by unfold fourRead; rw [if_pos hl]
  refine sq ?_
  refine wp_reg_pre (l := [_]) (rest := [_, _]) 84 [[]] [?b6_0] hr ?t6 ?o6 ?_
  case o6 =>
   apply oc0; intro A W hx hf
   exact ok_build0 built71
   exact onn
  case t6 => exact inferInstance
  clear hr; intro a7 w7 x hr hd hs
  revert s2; refine kp1 hs rfl ?_; intro s2
  clear s0 s9
  have s10 := fa ?b6_0 a7 w7 10 (hd 0 10 rfl)
  replace e_w := e_w.trans x
  replace e_w2 := e_w2.trans x; clear hd hs x
  have z8 := PxS.lt (later e_w2 s2)
  have l8 := (show (g2_2 = 0 ∨ w.heap.size < g2_2) ∧ True from ⟨by omega, trivial⟩)
  refine wl_storeSn hr size71 (later e_w2 s2) s10 (by exact four_len four0_ok) (by exact four_one) rfl ?_; clear hr; intro a8 w8 hc hu hr hs
  have hb : Below w.heap.size w7 w8 := hc.below e_w.size l8.1
  revert s2; refine kp1 hs rfl ?_; intro s2
  clear s10
  replace s2 := hu _ _ _ (later e_w2 s2)
  try simp only [List.set_cons_zero, List.set_cons_succ] at s2
  replace e_w := e_w.below (Nat.le_refl _) hb
  clear e_w2
  clear hu hs hc hb
  refine wl_op hr (ok_assignc) inferInstance ?_; clear hr; intro a9 w9 x hr hd hs
  revert s2; refine kp1 hs rfl ?_; intro s2
  have s3 := hd 3 rfl (by decide)
  replace e_w := e_w.trans x
  have e_w8 := x; clear hd hs x
  refine wpList_nil ?_
  refine et ?_
  refine wp_ret ?_
  refine then_ret ?_
  refine ret_cell_tmp Try.results48 hr tu71 rfl size71 (later e_w8 s2) e_w ?_
  (rw [hrd]; exact ⟨_, _, rfl, rfl, s3⟩)
 have hl : ¬ l.length < 20 := by simp at hl; omega
 have e0 : (l[0]'(by omega)).toNat = byteAt l 0 := (byteAt_get (by omega)).symm
 have e1 : (l[1]'(by omega)).toNat = byteAt l 1 := (byteAt_get (by omega)).symm
 have e8 : (l[8]'(by omega)).toNat = byteAt l 8 := (byteAt_get (by omega)).symm
 have e9 : (l[9]'(by omega)).toNat = byteAt l 9 := (byteAt_get (by omega)).symm
 refine wp_skip ?_
 refine es ?_
 refine wp_reg 84 [[(0, none)], [(11, some 0)], [(12, some 1)], [(13, some 2)], [(14, some 3)], [(15, some 4)], [(0, none)], [(17, some 6)], [(0, none)], [(19, some 8)], [(16, some 5)], [(18, some 7)], [(20, some 9)]] [?b10_0, ?b10_1, ?b10_2, ?b10_3, ?b10_4, ?b10_5, ?b10_6, ?b10_7, ?b10_8, ?b10_9, ?b10_5, ?b10_7, ?b10_9] mixed hr ?t10 ?o10 ?_
 case o10 =>
  apply oc0; intro A W hx hf
  exact ok_movE (a0 := a4) (r0 hf)
  apply oc0; intro A W hx hf
  exact ok_index_bs (0) tu22 size5 (p2 s0 e_w hx (q0 ?b10_0 A W 11 hf)) (ec A (.int .i64 0)) (by first | omega | decide | (simp; done) | (simp; omega))
  apply oc0; intro A W hx hf
  exact ok_loadp tu5 rfl (q0 ?b10_1 A W 12 hf)
  apply oc0; intro A W hx hf
  exact ok_andm 4 (by decide) (q0 ?b10_2 A W 13 hf) (ec A (.int .u8 15)) (by decide) (by exact mask_u8 _)
  apply oc0; intro A W hx hf
  exact ok_convI tu5 tu3 (by exact IntWalk.i64_in _ (by omega)) (q0 ?b10_3 A W 14 hf)
  apply oc0; intro A W hx hf
  exact ok_mulI (q0 ?b10_4 A W 15 hf) (ec A (.int .i64 4)) (by omega)
  apply oc0; intro A W hx hf
  exact ok_movE (a0 := a4) (r0 hf)
  apply oc0; intro A W hx hf
  exact ok_call2 body73 (c_two (p2 s0 e_w hx (q0 ?b10_6 A W 17 hf)) (show Is (.int .i64 2) (A.eval (.const (.int .i64 2))) _ from rfl) (by decide) (by omega))
  apply oc0; intro A W hx hf
  exact ok_movE (a0 := a4) (r0 hf)
  apply oc0; intro A W hx hf
  exact ok_call2 body73 (c_two (p2 s0 e_w hx (q0 ?b10_8 A W 19 hf)) (show Is (.int .i64 6) (A.eval (.const (.int .i64 6))) _ from rfl) (by decide) (by omega))
  apply oc0; intro A W hx hf
  exact ok_assign (q0 ?b10_5 A W 16 hf)
  apply oc0; intro A W hx hf
  exact ok_assign (q0 ?b10_7 A W 18 hf)
  apply oc0; intro A W hx hf
  exact ok_assign (q0 ?b10_9 A W 20 hf)
  exact onn
 case t10 => exact inferInstance
 clear hr; intro a11 w11 x hr hd hs
 revert s2; revert s0; refine kp2 hs rfl ?_; intro s0 s2
 clear s9
 have s4 := fa ?b10_5 a11 w11 4 (hd 10 4 rfl)
 have s5 := fa ?b10_7 a11 w11 5 (hd 11 5 rfl)
 have s6 := fa ?b10_9 a11 w11 6 (hd 12 6 rfl)
 replace e_w := e_w.trans x
 replace e_w2 := e_w2.trans x; clear hd hs x
 replace s4 := Is.int s4 (show _ = byteAt l 0 % 16 * 4 from by rw [e0]; rfl)
 refine es ?_
 refine wp_block ?_
 refine sq ?_
 refine sq ?_
 refine wp_reg 84 [[(0, none)], [(22, some 0)], [(23, some 1)], [(24, some 2)], [(25, some 3)], [(26, some 4)]] [?b12_0, ?b12_1, ?b12_2, ?b12_3, ?b12_4, ?b12_4] mixed hr ?t12 ?o12 ?_
 case o12 =>
  apply oc0; intro A W hx hf
  exact ok_movE (a0 := a11) (r0 hf)
  apply oc0; intro A W hx hf
  exact ok_index_bs (0) tu22 size5 (p2 s0 e_w hx (q0 ?b12_0 A W 22 hf)) (ec A (.int .i64 0)) (by first | omega | decide | (simp; done) | (simp; omega))
  apply oc0; intro A W hx hf
  exact ok_loadp tu5 rfl (q0 ?b12_1 A W 23 hf)
  apply oc0; intro A W hx hf
  exact ok_shr 4 (by decide) (q0 ?b12_2 A W 24 hf) (ec A (.int .u64 4))
  apply oc0; intro A W hx hf
  exact ok_neq (q0 ?b12_3 A W 25 hf) (ec A (.int .u8 4))
  apply oc0; intro A W hx hf
  exact ok_assign (q0 ?b12_4 A W 26 hf)
  exact onn
 case t12 => exact inferInstance
 clear hr; intro a13 w13 x hr hd hs
 revert s4; revert s6; revert s5; revert s2; revert s0; refine kp5 hs rfl ?_; intro s0 s2 s5 s6 s4
 have s21 := fa ?b12_4 a13 w13 21 (hd 5 21 rfl)
 replace e_w := e_w.trans x
 replace e_w2 := e_w2.trans x
 have e_w11 := x; clear hd hs x
 refine et ?_
 refine wp_cut (fun A W => Fr 84 A ∧ Same D_c_four_Read_0 a13 A ∧ Ext w W ∧ (Is (.bool (decide (byteAt l 0 / 16 ≠ 4 ∨ byteAt l 0 % 16 * 4 < 20)))) (A.eval (.tmp 21)) W ∧ (PxS g2_2 w.heap.size [42] [(fourS four0).flatten] 0) (A.eval (.tmp 2)) W) ?cut14 ?_
 case cut14 =>
  have m14 : Same D_c_four_Read_0 a13 a13 := Same.rfl
  refine wp_cond_split (show _ = _ from s21) (fun hv => ?_) (fun hv => ?_)
  ·
   skip
   refine wp_skip ?_
   refine et ?_
   refine ⟨hr, m14, e_w, ?_, ?_⟩
   · first | exact Is.bool s21 (read_c1 e0 hv) | exact Is.bool s21 (read_c2 e0 hv)
   · exact (later e_w2 s2)
  skip
  refine wp_reg 84 [[(4, none)], [(27, some 0)], [(28, some 1)]] [?b16_0, ?b16_1, ?b16_1] mixed hr ?t16 ?o16 ?_
  case o16 =>
   apply oc0; intro A W hx hf
   exact ok_movE (a0 := a13) (r0 hf)
   apply oc0; intro A W hx hf
   exact ok_lss (p2 s4 e_w11 hx (q0 ?b16_0 A W 27 hf)) (ec A (.int .i64 20))
   apply oc0; intro A W hx hf
   exact ok_assign (q0 ?b16_1 A W 28 hf)
   exact onn
  case t16 => exact inferInstance
  clear hr; intro a17 w17 x hr hd hs
  revert s4; revert s6; revert s5; revert s2; revert s0; refine kp5 hs rfl ?_; intro s0 s2 s5 s6 s4
  clear s21
  have s21 := fa ?b16_1 a17 w17 21 (hd 2 21 rfl)
  replace e_w := e_w.trans x
  replace e_w2 := e_w2.trans x
  replace e_w11 := e_w11.trans x
  replace m14 := m14.tr hs rfl; clear hd hs x
  refine et ?_
  refine ⟨hr, m14, e_w, ?_, ?_⟩
  · first | exact Is.bool s21 (read_c1 e0 hv) | exact Is.bool s21 (read_c2 e0 hv)
  · exact (later e_w2 s2)
 intro a14 w14 hI
 clear e_w
 clear e_w2
 clear e_w11
 clear hr; obtain ⟨hr, hs, e_w, u21, u2⟩ := hI
 revert s4; revert s6; revert s5; revert s0; refine kp4 hs rfl ?_; intro s0 s5 s6 s4
 clear s2 s21
 have s21 := u21; clear u21
 have s2 := u2; clear u2
 replace s5 := anyw (w2 := w14) s5
 replace s6 := anyw (w2 := w14) s6
 replace s4 := anyw (w2 := w14) s4
 clear hs
 refine wp_cond_split (show _ = _ from s21) (fun hv => ?_) (fun hv => ?_)
 ·
  have hv := of_decide_eq_true hv
  have hrd : fourRead l = (four0, 3) := by unfold fourRead; rw [if_neg hl, if_pos hv]
  refine sq ?_
  refine wp_reg_pre (l := [_]) (rest := [_, _]) 84 [[]] [?b19_0] hr ?t19 ?o19 ?_
  case o19 =>
   apply oc0; intro A W hx hf
   exact ok_build0 built71
   exact onn
  case t19 => exact inferInstance
  clear hr; intro a20 w20 x hr hd hs
  revert s2; refine kp1 hs rfl ?_; intro s2
  clear s0 s21 s5 s6 s4
  have s29 := fa ?b19_0 a20 w20 29 (hd 0 29 rfl)
  replace e_w := e_w.trans x
  have e_w14 := x; clear hd hs x
  have z21 := PxS.lt (later e_w14 s2)
  have l21 := (show (g2_2 = 0 ∨ w.heap.size < g2_2) ∧ True from ⟨by omega, trivial⟩)
  refine wl_storeSn hr size71 (later e_w14 s2) s29 (by exact four_len four0_ok) (by exact four_one) rfl ?_; clear hr; intro a21 w21 hc hu hr hs
  have hb : Below w.heap.size w20 w21 := hc.below e_w.size l21.1
  revert s2; refine kp1 hs rfl ?_; intro s2
  clear s29
  replace s2 := hu _ _ _ (later e_w14 s2)
  try simp only [List.set_cons_zero, List.set_cons_succ] at s2
  replace e_w := e_w.below (Nat.le_refl _) hb
  clear e_w14
  clear hu hs hc hb
  refine wl_op hr (ok_assignc) inferInstance ?_; clear hr; intro a22 w22 x hr hd hs
  revert s2; refine kp1 hs rfl ?_; intro s2
  have s3 := hd 3 rfl (by decide)
  replace e_w := e_w.trans x
  have e_w21 := x; clear hd hs x
  refine wpList_nil ?_
  refine et ?_
  refine wp_ret ?_
  refine blk_ret ?_
  refine then_ret ?_
  refine ret_cell_tmp Try.results48 hr tu71 rfl size71 (later e_w21 s2) e_w ?_
  (rw [hrd]; exact ⟨_, _, rfl, rfl, s3⟩)
 have hv := of_decide_eq_false hv
 refine sq ?_
 refine wp_reg 84 [[(4, none)], [(0, none)], [(32, some 1)], [(31, some 0), (33, some 2)], [(34, some 3)]] [?b23_0, ?b23_1, ?b23_2, ?b23_3, ?b23_3] mixed hr ?t23 ?o23 ?_
 case o23 =>
  apply oc0; intro A W hx hf
  exact ok_movE (a0 := a14) (r0 hf)
  apply oc0; intro A W hx hf
  exact ok_movE (a0 := a14) (r0 hf)
  apply oc0; intro A W hx hf
  exact ok_len_bs tu22 (p2 s0 e_w hx (q0 ?b23_1 A W 32 hf))
  apply oc0; intro A W hx hf
  exact ok_gtr (p1 s4 hx (q0 ?b23_0 A W 31 hf)) (q1 ?b23_2 A W 33 hf)
  apply oc0; intro A W hx hf
  exact ok_assign (q0 ?b23_3 A W 34 hf)
  exact onn
 case t23 => exact inferInstance
 clear hr; intro a24 w24 x hr hd hs
 revert s4; revert s6; revert s5; revert s2; revert s0; refine kp5 hs rfl ?_; intro s0 s2 s5 s6 s4
 clear s21
 have s30 := fa ?b23_3 a24 w24 30 (hd 4 30 rfl)
 replace e_w := e_w.trans x
 have e_w14 := x; clear hd hs x
 refine et ?_
 refine wp_cond_split (show _ = _ from s30) (fun hh => ?_) (fun hh => ?_)
 ·
  have hh : byteAt l 0 % 16 * 4 > (l.length : Int) := by simpa using hh
  have hrd : fourRead l = (four0, 2) := by unfold fourRead; rw [if_neg hl, if_neg hv, if_pos hh]
  refine sq ?_
  refine wp_reg_pre (l := [_]) (rest := [_, _]) 84 [[]] [?b26_0] hr ?t26 ?o26 ?_
  case o26 =>
   apply oc0; intro A W hx hf
   exact ok_build0 built71
   exact onn
  case t26 => exact inferInstance
  clear hr; intro a27 w27 x hr hd hs
  revert s2; refine kp1 hs rfl ?_; intro s2
  clear s0 s5 s6 s4 s30
  have s35 := fa ?b26_0 a27 w27 35 (hd 0 35 rfl)
  replace e_w := e_w.trans x
  replace e_w14 := e_w14.trans x; clear hd hs x
  have z28 := PxS.lt (later e_w14 s2)
  have l28 := (show (g2_2 = 0 ∨ w.heap.size < g2_2) ∧ True from ⟨by omega, trivial⟩)
  refine wl_storeSn hr size71 (later e_w14 s2) s35 (by exact four_len four0_ok) (by exact four_one) rfl ?_; clear hr; intro a28 w28 hc hu hr hs
  have hb : Below w.heap.size w27 w28 := hc.below e_w.size l28.1
  revert s2; refine kp1 hs rfl ?_; intro s2
  clear s35
  replace s2 := hu _ _ _ (later e_w14 s2)
  try simp only [List.set_cons_zero, List.set_cons_succ] at s2
  replace e_w := e_w.below (Nat.le_refl _) hb
  clear e_w14
  clear hu hs hc hb
  refine wl_op hr (ok_assignc) inferInstance ?_; clear hr; intro a29 w29 x hr hd hs
  revert s2; refine kp1 hs rfl ?_; intro s2
  have s3 := hd 3 rfl (by decide)
  replace e_w := e_w.trans x
  have e_w28 := x; clear hd hs x
  refine wpList_nil ?_
  refine et ?_
  refine wp_ret ?_
  refine blk_ret ?_
  refine then_ret ?_
  refine ret_cell_tmp Try.results48 hr tu71 rfl size71 (later e_w28 s2) e_w ?_
  (rw [hrd]; exact ⟨_, _, rfl, rfl, s3⟩)
 have hh : ¬ byteAt l 0 % 16 * 4 > (l.length : Int) := by simpa using hh
 refine sq ?_
 refine wp_reg 84 [[(5, none)], [(4, none)], [(37, some 0), (38, some 1)], [(39, some 2)]] [?b30_0, ?b30_1, ?b30_2, ?b30_2] mixed hr ?t30 ?o30 ?_
 case o30 =>
  apply oc0; intro A W hx hf
  exact ok_movE (a0 := a24) (r0 hf)
  apply oc0; intro A W hx hf
  exact ok_movE (a0 := a24) (r0 hf)
  apply oc0; intro A W hx hf
  exact ok_lss (p2 s5 e_w14 hx (q0 ?b30_0 A W 37 hf)) (p2 s4 e_w14 hx (q1 ?b30_1 A W 38 hf))
  apply oc0; intro A W hx hf
  exact ok_assign (q0 ?b30_2 A W 39 hf)
  exact onn
 case t30 => exact inferInstance
 clear hr; intro a31 w31 x hr hd hs
 revert s4; revert s6; revert s5; revert s2; revert s0; refine kp5 hs rfl ?_; intro s0 s2 s5 s6 s4
 clear s30
 have s36 := fa ?b30_2 a31 w31 36 (hd 3 36 rfl)
 replace e_w := e_w.trans x
 replace e_w14 := e_w14.trans x; clear hd hs x
 refine et ?_
 refine wp_cond_split (show _ = _ from s36) (fun ht => ?_) (fun ht => ?_)
 ·
  have ht : wordAt l 2 < byteAt l 0 % 16 * 4 := by simpa using ht
  have hrd : fourRead l = (four0, 3) := by unfold fourRead; rw [if_neg hl, if_neg hv, if_neg hh, if_pos ht]
  refine sq ?_
  refine wp_reg_pre (l := [_]) (rest := [_, _]) 84 [[]] [?b33_0] hr ?t33 ?o33 ?_
  case o33 =>
   apply oc0; intro A W hx hf
   exact ok_build0 built71
   exact onn
  case t33 => exact inferInstance
  clear hr; intro a34 w34 x hr hd hs
  revert s2; refine kp1 hs rfl ?_; intro s2
  clear s0 s5 s6 s4 s36
  have s40 := fa ?b33_0 a34 w34 40 (hd 0 40 rfl)
  replace e_w := e_w.trans x
  replace e_w14 := e_w14.trans x; clear hd hs x
  have z35 := PxS.lt (later e_w14 s2)
  have l35 := (show (g2_2 = 0 ∨ w.heap.size < g2_2) ∧ True from ⟨by omega, trivial⟩)
  refine wl_storeSn hr size71 (later e_w14 s2) s40 (by exact four_len four0_ok) (by exact four_one) rfl ?_; clear hr; intro a35 w35 hc hu hr hs
  have hb : Below w.heap.size w34 w35 := hc.below e_w.size l35.1
  revert s2; refine kp1 hs rfl ?_; intro s2
  clear s40
  replace s2 := hu _ _ _ (later e_w14 s2)
  try simp only [List.set_cons_zero, List.set_cons_succ] at s2
  replace e_w := e_w.below (Nat.le_refl _) hb
  clear e_w14
  clear hu hs hc hb
  refine wl_op hr (ok_assignc) inferInstance ?_; clear hr; intro a36 w36 x hr hd hs
  revert s2; refine kp1 hs rfl ?_; intro s2
  have s3 := hd 3 rfl (by decide)
  replace e_w := e_w.trans x
  have e_w35 := x; clear hd hs x
  refine wpList_nil ?_
  refine et ?_
  refine wp_ret ?_
  refine blk_ret ?_
  refine then_ret ?_
  refine ret_cell_tmp Try.results48 hr tu71 rfl size71 (later e_w35 s2) e_w ?_
  (rw [hrd]; exact ⟨_, _, rfl, rfl, s3⟩)
 have ht : ¬ wordAt l 2 < byteAt l 0 % 16 * 4 := by simpa using ht
 refine sq ?_
 refine wp_reg 84 [[(5, none)], [(0, none)], [(43, some 1)], [(42, some 0), (44, some 2)], [(45, some 3)]] [?b37_0, ?b37_1, ?b37_2, ?b37_3, ?b37_3] mixed hr ?t37 ?o37 ?_
 case o37 =>
  apply oc0; intro A W hx hf
  exact ok_movE (a0 := a31) (r0 hf)
  apply oc0; intro A W hx hf
  exact ok_movE (a0 := a31) (r0 hf)
  apply oc0; intro A W hx hf
  exact ok_len_bs tu22 (p2 s0 e_w hx (q0 ?b37_1 A W 43 hf))
  apply oc0; intro A W hx hf
  exact ok_gtr (p2 s5 e_w14 hx (q0 ?b37_0 A W 42 hf)) (q1 ?b37_2 A W 44 hf)
  apply oc0; intro A W hx hf
  exact ok_assign (q0 ?b37_3 A W 45 hf)
  exact onn
 case t37 => exact inferInstance
 clear hr; intro a38 w38 x hr hd hs
 revert s4; revert s6; revert s5; revert s2; revert s0; refine kp5 hs rfl ?_; intro s0 s2 s5 s6 s4
 clear s36
 have s41 := fa ?b37_3 a38 w38 41 (hd 4 41 rfl)
 replace e_w := e_w.trans x
 replace e_w14 := e_w14.trans x; clear hd hs x
 refine et ?_
 refine wp_cond_split (show _ = _ from s41) (fun hu => ?_) (fun hu => ?_)
 ·
  have hu : wordAt l 2 > (l.length : Int) := by simpa using hu
  have hrd : fourRead l = (four0, 2) := by unfold fourRead; rw [if_neg hl, if_neg hv, if_neg hh, if_neg ht, if_pos hu]
  refine sq ?_
  refine wp_reg_pre (l := [_]) (rest := [_, _]) 84 [[]] [?b40_0] hr ?t40 ?o40 ?_
  case o40 =>
   apply oc0; intro A W hx hf
   exact ok_build0 built71
   exact onn
  case t40 => exact inferInstance
  clear hr; intro a41 w41 x hr hd hs
  revert s2; refine kp1 hs rfl ?_; intro s2
  clear s0 s5 s6 s4 s41
  have s46 := fa ?b40_0 a41 w41 46 (hd 0 46 rfl)
  replace e_w := e_w.trans x
  replace e_w14 := e_w14.trans x; clear hd hs x
  have z42 := PxS.lt (later e_w14 s2)
  have l42 := (show (g2_2 = 0 ∨ w.heap.size < g2_2) ∧ True from ⟨by omega, trivial⟩)
  refine wl_storeSn hr size71 (later e_w14 s2) s46 (by exact four_len four0_ok) (by exact four_one) rfl ?_; clear hr; intro a42 w42 hc hu hr hs
  have hb : Below w.heap.size w41 w42 := hc.below e_w.size l42.1
  revert s2; refine kp1 hs rfl ?_; intro s2
  clear s46
  replace s2 := hu _ _ _ (later e_w14 s2)
  try simp only [List.set_cons_zero, List.set_cons_succ] at s2
  replace e_w := e_w.below (Nat.le_refl _) hb
  clear e_w14
  clear hu hs hc hb
  refine wl_op hr (ok_assignc) inferInstance ?_; clear hr; intro a43 w43 x hr hd hs
  revert s2; refine kp1 hs rfl ?_; intro s2
  have s3 := hd 3 rfl (by decide)
  replace e_w := e_w.trans x
  have e_w42 := x; clear hd hs x
  refine wpList_nil ?_
  refine et ?_
  refine wp_ret ?_
  refine blk_ret ?_
  refine then_ret ?_
  refine ret_cell_tmp Try.results48 hr tu71 rfl size71 (later e_w42 s2) e_w ?_
  (rw [hrd]; exact ⟨_, _, rfl, rfl, s3⟩)
 have hu : ¬ wordAt l 2 > (l.length : Int) := by simpa using hu
 refine sq ?_
 refine wp_reg 84 [[(0, none)], [(4, none)], [(48, some 0), (49, some 1)], [(50, some 2)], [(51, some 3)], [(52, some 4)], [(53, some 5)]] [?b44_0, ?b44_1, ?b44_2, ?b44_3, ?b44_4, ?b44_5, ?b44_5] mixed hr ?t44 ?o44 ?_
 case o44 =>
  apply oc0; intro A W hx hf
  exact ok_movE (a0 := a38) (r0 hf)
  apply oc0; intro A W hx hf
  exact ok_movE (a0 := a38) (r0 hf)
  apply oc0; intro A W hx hf
  exact okW_slice_hi ((byteAt l 0 % 16 * 4).toNat) tu22 size5 (sarg s0 (show _ = _ from (q0 ?b44_0 A W 48 hf))) (Is.int (p2 s4 e_w14 hx (q1 ?b44_1 A W 49 hf)) (by omega)) (by omega)
  apply oc0; intro A W hx hf
  exact ok_buildBss [(.tmp 50)] [_] tu107 size22 zero22 rfl rfl (by decide) (PartsOk.cons (AtW.now (q0 ?b44_2 A W 50 hf) (e_w.trans hx)) (PartsOk.nil))
  apply oc0; intro A W hx hf
  exact ok_call1 body74 (c_Right (q0 ?b44_3 A W 51 hf))
  apply oc0; intro A W hx hf
  exact ok_not (q0 ?b44_4 A W 52 hf)
  apply oc0; intro A W hx hf
  exact ok_assign (q0 ?b44_5 A W 53 hf)
  exact onn
 case t44 => exact inferInstance
 clear hr; intro a45 w45 x hr hd hs
 revert s4; revert s6; revert s5; revert s2; revert s0; refine kp5 hs rfl ?_; intro s0 s2 s5 s6 s4
 clear s41
 have s47 := fa ?b44_5 a45 w45 47 (hd 6 47 rfl)
 replace e_w := e_w.trans x
 replace e_w14 := e_w14.trans x; clear hd hs x
 refine et ?_
 refine wp_cond_split (show _ = _ from s47) (fun hs => ?_) (fun hs => ?_)
 ·
  have hs : ck (l.take (byteAt l 0 % 16 * 4).toNat) ≠ 0 := by simpa using hs
  have hrd : fourRead l = (four0, 8) := by unfold fourRead; rw [if_neg hl, if_neg hv, if_neg hh, if_neg ht, if_neg hu, if_pos hs]
  refine sq ?_
  refine wp_reg_pre (l := [_]) (rest := [_, _]) 84 [[]] [?b47_0] hr ?t47 ?o47 ?_
  case o47 =>
   apply oc0; intro A W hx hf
   exact ok_build0 built71
   exact onn
  case t47 => exact inferInstance
  clear hr; intro a48 w48 x hr hd hs
  revert s2; refine kp1 hs rfl ?_; intro s2
  clear s0 s5 s6 s4 s47
  have s54 := fa ?b47_0 a48 w48 54 (hd 0 54 rfl)
  replace e_w := e_w.trans x
  replace e_w14 := e_w14.trans x; clear hd hs x
  have z49 := PxS.lt (later e_w14 s2)
  have l49 := (show (g2_2 = 0 ∨ w.heap.size < g2_2) ∧ True from ⟨by omega, trivial⟩)
  refine wl_storeSn hr size71 (later e_w14 s2) s54 (by exact four_len four0_ok) (by exact four_one) rfl ?_; clear hr; intro a49 w49 hc hu hr hs
  have hb : Below w.heap.size w48 w49 := hc.below e_w.size l49.1
  revert s2; refine kp1 hs rfl ?_; intro s2
  clear s54
  replace s2 := hu _ _ _ (later e_w14 s2)
  try simp only [List.set_cons_zero, List.set_cons_succ] at s2
  replace e_w := e_w.below (Nat.le_refl _) hb
  clear e_w14
  clear hu hs hc hb
  refine wl_op hr (ok_assignc) inferInstance ?_; clear hr; intro a50 w50 x hr hd hs
  revert s2; refine kp1 hs rfl ?_; intro s2
  have s3 := hd 3 rfl (by decide)
  replace e_w := e_w.trans x
  have e_w49 := x; clear hd hs x
  refine wpList_nil ?_
  refine et ?_
  refine wp_ret ?_
  refine blk_ret ?_
  refine then_ret ?_
  refine ret_cell_tmp Try.results48 hr tu71 rfl size71 (later e_w49 s2) e_w ?_
  (rw [hrd]; exact ⟨_, _, rfl, rfl, s3⟩)
 have hs : ¬ ck (l.take (byteAt l 0 % 16 * 4).toNat) ≠ 0 := by simpa using hs
 have hrd := fourRead_last hl hv hh ht hu hs
 refine wp_skip ?_
 refine blk_normal ?_
 refine es ?_
 refine wp_any_start mixed (fun w51 x => ?_)
 show wpAny _ _ _ _ 31 _ _ _
 replace e_w := e_w.trans x
 replace e_w14 := e_w14.trans x
 have e_w45 := x
 clear x
 refine wp_sel (l := (_ :: _ :: _ :: _ :: _ :: _ :: _ :: _ :: _ :: _ :: _ :: _ :: _ :: _ :: _ :: _ :: _ :: _ :: _ :: _ :: _ :: _ :: _ :: _ :: _ :: _ :: _ :: _ :: _ :: _ :: _ :: [])) 84 _ (false :: false :: false :: false :: false :: false :: false :: false :: false :: false :: false :: false :: false :: false :: false :: false :: false :: false :: false :: false :: false :: false :: false :: false :: false :: false :: false :: false :: false :: true :: true :: []) [29, 30] ([(4, none)] :: [(5, none)] :: [(0, none)] :: [(57, some 2)] :: [(58, some 3)] :: [(59, some 4)] :: [(0, none)] :: [(61, some 6)] :: [(6, none)] :: [(63, some 8)] :: [(64, some 9)] :: [(6, none)] :: [(66, some 11)] :: [(67, some 12)] :: [(0, none)] :: [(69, some 14)] :: [(70, some 15)] :: [(71, some 16)] :: [(0, none)] :: [(73, some 18)] :: [(74, some 19)] :: [(75, some 20)] :: [(0, none)] :: [(77, some 22)] :: [(78, some 23)] :: [(0, none)] :: [(80, some 25)] :: [(81, some 26)] :: [(55, some 0), (56, some 1), (60, some 5), (62, some 7), (65, some 10), (68, some 13), (72, some 17), (76, some 21), (79, some 24), (82, some 27)] :: [] :: [] :: []) (?b52_0 :: ?b52_1 :: ?b52_2 :: ?b52_3 :: ?b52_4 :: ?b52_5 :: ?b52_6 :: ?b52_7 :: ?b52_8 :: ?b52_9 :: ?b52_10 :: ?b52_11 :: ?b52_12 :: ?b52_13 :: ?b52_14 :: ?b52_15 :: ?b52_16 :: ?b52_17 :: ?b52_18 :: ?b52_19 :: ?b52_20 :: ?b52_21 :: ?b52_22 :: ?b52_23 :: ?b52_24 :: ?b52_25 :: ?b52_26 :: ?b52_27 :: ?b52_28 :: VP.top :: VP.top :: []) (by kernel_rfl) rfl (by kernel_rfl) hr ?t52 ?o52 ?_
 case o52 =>
  apply lc0; intro A W hx hf
  exact ok_movE (a0 := a45) (r0 hf)
  apply lc0; intro A W hx hf
  exact ok_movE (a0 := a45) (r0 hf)
  apply lc0; intro A W hx hf
  exact ok_movE (a0 := a45) (r0 hf)
  apply lc0; intro A W hx hf
  exact ok_index_bs (1) tu22 size5 (p2 s0 e_w hx (q0 ?b52_2 A W 57 hf)) (ec A (.int .i64 1)) (by first | omega | decide | (simp; done) | (simp; omega))
  apply lc0; intro A W hx hf
  exact ok_loadp tu5 rfl (q0 ?b52_3 A W 58 hf)
  apply lc0; intro A W hx hf
  exact ok_convB tu5 tu3 (by decide) (q0 ?b52_4 A W 59 hf)
  apply lc0; intro A W hx hf
  exact ok_movE (a0 := a45) (r0 hf)
  apply lc0; intro A W hx hf
  exact ok_call2 body73 (c_two (p2 s0 e_w hx (q0 ?b52_6 A W 61 hf)) (show Is (.int .i64 4) (A.eval (.const (.int .i64 4))) _ from rfl) (by decide) (by omega))
  apply lc0; intro A W hx hf
  exact ok_movE (a0 := a45) (r0 hf)
  apply lc0; intro A W hx hf
  exact ok_andm 14 (by decide) (p2 s6 e_w14 hx (q0 ?b52_8 A W 63 hf)) (ec A (.int .i64 16383)) (by decide) (by simp [IntKind.max, IntKind.signed, IntKind.bits]; omega)
  apply lc0; intro A W hx hf
  exact ok_neq (q0 ?b52_9 A W 64 hf) (ec A (.int .i64 0))
  apply lc0; intro A W hx hf
  exact ok_movE (a0 := a45) (r0 hf)
  apply lc0; intro A W hx hf
  exact ok_andb (p2 s6 e_w14 hx (q0 ?b52_11 A W 66 hf)) (ec A (.int .i64 16384))
  apply lc0; intro A W hx hf
  exact ok_neq (q0 ?b52_12 A W 67 hf) (ec A (.int .i64 0))
  apply lc0; intro A W hx hf
  exact ok_movE (a0 := a45) (r0 hf)
  apply lc0; intro A W hx hf
  exact ok_index_bs (8) tu22 size5 (p2 s0 e_w hx (q0 ?b52_14 A W 69 hf)) (ec A (.int .i64 8)) (by first | omega | decide | (simp; done) | (simp; omega))
  apply lc0; intro A W hx hf
  exact ok_loadp tu5 rfl (q0 ?b52_15 A W 70 hf)
  apply lc0; intro A W hx hf
  exact ok_convB tu5 tu3 (by decide) (q0 ?b52_16 A W 71 hf)
  apply lc0; intro A W hx hf
  exact ok_movE (a0 := a45) (r0 hf)
  apply lc0; intro A W hx hf
  exact ok_index_bs (9) tu22 size5 (p2 s0 e_w hx (q0 ?b52_18 A W 73 hf)) (ec A (.int .i64 9)) (by first | omega | decide | (simp; done) | (simp; omega))
  apply lc0; intro A W hx hf
  exact ok_loadp tu5 rfl (q0 ?b52_19 A W 74 hf)
  apply lc0; intro A W hx hf
  exact ok_convB tu5 tu3 (by decide) (q0 ?b52_20 A W 75 hf)
  apply lc0; intro A W hx hf
  exact ok_movE (a0 := a45) (r0 hf)
  apply lc0; intro A W hx hf
  exact okW_slice_lo (12) tu22 size5 (sarg s0 (show _ = _ from (q0 ?b52_22 A W 77 hf))) (ec A (.int .i64 12)) (by first | omega | decide | (simp; done) | (simp; omega))
  apply lc0; intro A W hx hf
  exact ok_call1 body75 (c_addr (AtW.now (q0 ?b52_23 A W 78 hf) (e_w.trans hx)) (by simp; omega))
  apply lc0; intro A W hx hf
  exact ok_movE (a0 := a45) (r0 hf)
  apply lc0; intro A W hx hf
  exact okW_slice_lo (16) tu22 size5 (sarg s0 (show _ = _ from (q0 ?b52_25 A W 80 hf))) (ec A (.int .i64 16)) (by first | omega | decide | (simp; done) | (simp; omega))
  apply lc0; intro A W hx hf
  exact ok_call1 body75 (c_addr (AtW.now (q0 ?b52_26 A W 81 hf) (e_w.trans hx)) (by simp; omega))
  apply lc0; intro A W hx hf
  exact ok_buildS [(0, (.tmp 55)), (1, (.tmp 56)), (2, (.tmp 60)), (3, (.tmp 62)), (4, (.tmp 65)), (5, (.tmp 68)), (6, (.tmp 72)), (7, (.tmp 76)), (8, (.tmp 79)), (9, (.tmp 82))] [(0, _), (1, _), (2, _), (3, _), (4, _), (5, _), (6, _), (7, _), (8, _), (9, _)] lay71 rfl (PartsC.one (p2 s4 e_w14 hx (q0 ?b52_0 A W 55 hf)) rfl (PartsC.one (p2 s5 e_w14 hx (q1 ?b52_1 A W 56 hf)) rfl (PartsC.one (q2 ?b52_5 A W 60 hf) rfl (PartsC.one (q3 ?b52_7 A W 62 hf) rfl (PartsC.one (q4 ?b52_10 A W 65 hf) rfl (PartsC.one (q5 ?b52_13 A W 68 hf) rfl (PartsC.one (q6 ?b52_17 A W 72 hf) rfl (PartsC.one (q7 ?b52_21 A W 76 hf) rfl (PartsC.agg (q8 ?b52_24 A W 79 hf) (PartsC.agg (q9 ?b52_27 A W 82 hf) (PartsC.nil))))))))))) (by simp [adrCells_len (adr4_len (l := l.drop 12) (i := 0) (by simp; omega)), adrCells_len (adr4_len (l := l.drop 16) (i := 0) (by simp; omega))])
  refine lcs ?_
  refine lcs ?_
  exact lcn
 case t52 => repeat (first | exact stb_nil | refine stb_cons ?_)
 clear hr; intro a53 w53 x hr hd hs
 have u55 := mv s4 (fa ?b52_0 a53 w53 55 (hd 0 55 rfl rfl))
 have u56 := mv s5 (fa ?b52_1 a53 w53 56 (hd 1 56 rfl rfl))
 have u57 := mv s0 (fa ?b52_2 a53 w53 57 (hd 2 57 rfl rfl))
 have u61 := mv s0 (fa ?b52_6 a53 w53 61 (hd 6 61 rfl rfl))
 have u63 := mv s6 (fa ?b52_8 a53 w53 63 (hd 8 63 rfl rfl))
 have u66 := mv s6 (fa ?b52_11 a53 w53 66 (hd 11 66 rfl rfl))
 have u69 := mv s0 (fa ?b52_14 a53 w53 69 (hd 14 69 rfl rfl))
 have u73 := mv s0 (fa ?b52_18 a53 w53 73 (hd 18 73 rfl rfl))
 have u77 := mv s0 (fa ?b52_22 a53 w53 77 (hd 22 77 rfl rfl))
 have u80 := mv s0 (fa ?b52_25 a53 w53 80 (hd 25 80 rfl rfl))
 revert s4; revert s6; revert s5; revert s2; revert s0; refine kp5 hs rfl ?_; intro s0 s2 s5 s6 s4
 clear s47
 have s55 := u55; clear u55
 have s56 := u56; clear u56
 have s57 := u57; clear u57
 have s61 := u61; clear u61
 have s63 := u63; clear u63
 have s66 := u66; clear u66
 have s69 := u69; clear u69
 have s73 := u73; clear u73
 have s77 := u77; clear u77
 have s80 := u80; clear u80
 have s58 := fa ?b52_3 a53 w53 58 (hd 3 58 rfl rfl)
 have s59 := fa ?b52_4 a53 w53 59 (hd 4 59 rfl rfl)
 have s60 := fa ?b52_5 a53 w53 60 (hd 5 60 rfl rfl)
 have s62 := fa ?b52_7 a53 w53 62 (hd 7 62 rfl rfl)
 have s64 := fa ?b52_9 a53 w53 64 (hd 9 64 rfl rfl)
 have s65 := fa ?b52_10 a53 w53 65 (hd 10 65 rfl rfl)
 have s67 := fa ?b52_12 a53 w53 67 (hd 12 67 rfl rfl)
 have s68 := fa ?b52_13 a53 w53 68 (hd 13 68 rfl rfl)
 have s70 := fa ?b52_15 a53 w53 70 (hd 15 70 rfl rfl)
 have s71 := fa ?b52_16 a53 w53 71 (hd 16 71 rfl rfl)
 have s72 := fa ?b52_17 a53 w53 72 (hd 17 72 rfl rfl)
 have s74 := fa ?b52_19 a53 w53 74 (hd 19 74 rfl rfl)
 have s75 := fa ?b52_20 a53 w53 75 (hd 20 75 rfl rfl)
 have s76 := fa ?b52_21 a53 w53 76 (hd 21 76 rfl rfl)
 have s78 := AtW.base (fa ?b52_23 a53 w53 78 (hd 23 78 rfl rfl))
 have s79 := fa ?b52_24 a53 w53 79 (hd 24 79 rfl rfl)
 have s81 := AtW.base (fa ?b52_26 a53 w53 81 (hd 26 81 rfl rfl))
 have s82 := fa ?b52_27 a53 w53 82 (hd 27 82 rfl rfl)
 have s83 := fa ?b52_28 a53 w53 83 (hd 28 83 rfl rfl)
 replace e_w := e_w.trans x
 replace e_w14 := e_w14.trans x
 clear e_w45; clear hd hs x
 show wpList _ _ _ [_, _] _ _
 have z54 := PxS.lt (later e_w14 s2)
 have l54 := (show (g2_2 = 0 ∨ w.heap.size < g2_2) ∧ True from ⟨by omega, trivial⟩)
 refine wl_storeSn hr size71 (later e_w14 s2) (Is.conv s83 (four_built e1 e8 e9 w6)) (by exact four_len ⟨adr4_len (by simp; omega), adr4_len (by simp; omega)⟩) (by exact four_one) rfl ?_; clear hr; intro a54 w54 hc hu hr hs
 have hb : Below w.heap.size w53 w54 := hc.below e_w.size l54.1
 revert s2; refine kp1 hs rfl ?_; intro s2
 clear s0 s5 s6 s4 s55 s56 s57 s61 s63 s66 s69 s73 s77 s80 s58 s59 s60 s62 s64 s65 s67 s68 s70 s71 s72 s74 s75 s76 s78 s79 s81 s82 s83
 replace s2 := hu _ _ _ (later e_w14 s2)
 try simp only [List.set_cons_zero, List.set_cons_succ] at s2
 replace e_w := e_w.below (Nat.le_refl _) hb
 clear e_w14
 clear hu hs hc hb
 refine wl_op hr (ok_assignc) inferInstance ?_; clear hr; intro a55 w55 x hr hd hs
 revert s2; refine kp1 hs rfl ?_; intro s2
 have s3 := hd 3 rfl (by decide)
 replace e_w := e_w.trans x
 have e_w54 := x; clear hd hs x
 refine wpList_nil ?_
 refine et ?_
 refine wp_ret ?_
 refine ret_cell_tmp Try.results48 hr tu71 rfl size71 (later e_w54 s2) e_w ?_
 (rw [hrd]; exact ⟨_, _, rfl, rfl, s3⟩)

theorem c_in {x0 x1 : Value} {w : World} {m q : Int} (h0 : (Is (.int .i64 m)) x0 w) (h1 : (Is (.int .i64 q)) x1 w)  :
    Calls Try.prog 66 #[x0, x1] w (Ret (Is (.bool (inB m q))) w) := by
 refine enter Try.func66 rfl Try.ntmps66 (k := 2) rfl (by decide) (fun a0 hr hargs => ?_)
 have s0 := sarg h0 (hargs 0 (by decide))
 have s1 := sarg h1 (hargs 1 (by decide))
 clear hargs
 refine sq ?_
 refine wp_reg 12 [[]] [?b1_0] mixed hr ?t1 ?o1 ?_
 case o1 =>
  apply oc0; intro A W hx hf
  exact ok_assignc
  exact onn
 case t1 => exact inferInstance
 clear hr; intro a2 w2 x hr hd hs
 revert s1; revert s0; refine kp2 hs rfl ?_; intro s0 s1
 have e_w := x; clear hd hs x
 refine es ?_
 refine wp_reg 12 [[(0, none)], [(5, some 0)], [(6, some 1)], [(0, none), (7, some 2)], [(1, none), (7, some 2)], [(8, some 3), (9, some 4), (7, some 2)], [(7, some 2), (10, some 5)], [(11, some 6)]] [?b3_0, ?b3_1, ?b3_1, ?b3_3, ?b3_4, ?b3_5, ?b3_6, ?b3_6] mixed hr ?t3 ?o3 ?_
 case o3 =>
  apply oc0; intro A W hx hf
  exact ok_movE (a0 := a2) (r0 hf)
  apply oc0; intro A W hx hf
  exact ok_geq (p2 s0 e_w hx (q0 ?b3_0 A W 5 hf)) (ec A (.int .i64 0))
  apply oc0; intro A W hx hf
  exact ok_move (q0 ?b3_1 A W 6 hf)
  refine ocg 7 ?_ (fun A W hx hf => ?_) ?_
  rfl
  exact gd_t (q1 ?b3_1 A W 7 hf) (fun hc => ok_movE (a0 := a2) (r0 hf))
  refine ocg 7 ?_ (fun A W hx hf => ?_) ?_
  rfl
  exact gd_t (q1 ?b3_1 A W 7 hf) (fun hc => ok_movE (a0 := a2) (r0 hf))
  refine ocg 7 ?_ (fun A W hx hf => ?_) ?_
  rfl
  exact gd_t (q2 ?b3_1 A W 7 hf) (fun hc => ok_leq (p2 s0 e_w hx (G.get (q0 ?b3_3 A W 8 hf) hc)) (p2 s1 e_w hx (G.get (q1 ?b3_4 A W 9 hf) hc)))
  apply oc0; intro A W hx hf
  exact ok_and (q0 ?b3_1 A W 7 hf) (q1 ?b3_5 A W 10 hf)
  apply oc0; intro A W hx hf
  exact ok_assign (q0 ?b3_6 A W 11 hf)
  exact onn
 case t3 => exact inferInstance
 clear hr; intro a4 w4 x hr hd hs
 clear s0 s1
 have s4 := fa ?b3_6 a4 w4 4 (hd 7 4 rfl)
 replace e_w := e_w.trans x; clear hd hs x
 refine et ?_
 refine wp_ret ?_
 refine ret_tmp Try.results66 hr e_w ?_
 exact Is.bool s4 (by unfold inB; rfl)

theorem c_short {x0 : Value} {w : World} {Sa : Adr} (h0 : (Is (AdrV Sa)) x0 w) (hA : Sa.b.length = 16) :
    Calls Try.prog 67 #[x0] w (Ret (Is (.bool (shortA Sa))) w) := by
 refine enter Try.func67 rfl Try.ntmps67 (k := 1) rfl (by decide) (fun a0 hr hargs => ?_)
 have s0 := sarg h0 (hargs 0 (by decide))
 clear hargs
 refine sq ?_
 refine wp_reg 12 [[(0, none)], []] [?b1_0, ?b1_1] mixed hr ?t1 ?o1 ?_
 case o1 =>
  apply oc0; intro A W hx hf
  exact ok_boxA (o1 s0 hx (r0 hf))
  apply oc0; intro A W hx hf
  exact ok_assignc
  exact onn
 case t1 => exact inferInstance
 clear hr; intro a2 w2 x hr hd hs
 clear s0
 have s1 := fa ?b1_0 a2 w2 1 (hd 0 1 rfl)
 have e_w := x; clear hd hs x
 refine es ?_
 refine wp_reg 12 [[(1, none)], [(3, some 0)], [(4, some 1)], [(5, some 2)], [(1, none), (6, some 3)], [(7, some 4), (6, some 3)], [(8, some 5), (6, some 3)], [(9, some 6), (6, some 3)], [(6, some 3), (10, some 7)], [(11, some 8)]] [?b3_0, ?b3_1, ?b3_2, ?b3_2, ?b3_4, ?b3_5, ?b3_6, ?b3_7, ?b3_8, ?b3_8] mixed hr ?t3 ?o3 ?_
 case o3 =>
  apply oc0; intro A W hx hf
  exact ok_fieldAddr tu26 (i := 0) rfl size4 rfl (o1 s1 hx (r0 hf))
  apply oc0; intro A W hx hf
  exact ok_loadc tu4 rfl (q0 ?b3_0 A W 3 hf)
  apply oc0; intro A W hx hf
  exact ok_not (q0 ?b3_1 A W 4 hf)
  apply oc0; intro A W hx hf
  exact ok_move (q0 ?b3_2 A W 5 hf)
  refine ocg 6 ?_ (fun A W hx hf => ?_) ?_
  rfl
  exact gd_t (q1 ?b3_2 A W 6 hf) (fun hc => ok_fieldAddr tu26 (i := 1) rfl size24 rfl (o1 s1 hx (r0 hf)))
  refine ocg 6 ?_ (fun A W hx hf => ?_) ?_
  rfl
  exact gd_t (q1 ?b3_2 A W 6 hf) (fun hc => ok_arr_lo 4 tu24 size5 (adr_take hA) hA (by decide) (G.get (q0 ?b3_4 A W 7 hf) hc) (ec A (.int .i64 4)) (by first | omega | decide | (simp; done) | (simp; omega)))
  refine ocg 6 ?_ (fun A W hx hf => ?_) ?_
  rfl
  exact gd_t (q1 ?b3_2 A W 6 hf) (fun hc => ok_call2 body81 (c_ContainsFunc (G.get (q0 ?b3_5 A W 8 hf) hc) (show Is (FnV 86) (A.eval (.func 86)) _ from rfl) body86 fun c x w hc => c_short1 hc))
  refine ocg 6 ?_ (fun A W hx hf => ?_) ?_
  rfl
  exact gd_t (q1 ?b3_2 A W 6 hf) (fun hc => ok_not (G.get (q0 ?b3_6 A W 9 hf) hc))
  apply oc0; intro A W hx hf
  exact ok_and (q0 ?b3_2 A W 6 hf) (q1 ?b3_7 A W 10 hf)
  apply oc0; intro A W hx hf
  exact ok_assign (q0 ?b3_8 A W 11 hf)
  exact onn
 case t3 => exact inferInstance
 clear hr; intro a4 w4 x hr hd hs
 clear s1
 have s2 := fa ?b3_8 a4 w4 2 (hd 9 2 rfl)
 replace e_w := e_w.trans x; clear hd hs x
 refine et ?_
 refine wp_ret ?_
 refine ret_tmp Try.results67 hr e_w ?_
 exact Is.bool s2 (by unfold shortA; rfl)

def D_c_four_Put_0 : List Tmp := [4]
def D_c_four_Put_1 : List Tmp := [5, 7, 81, 82, 83, 84, 85, 86, 87, 88, 89, 90]
theorem c_four_Put {x0 : Value} {w : World} {H : FourL} {B : Nat} (h0 : (Is (FourV H)) x0 w) (hH : FourOk H) (hB : B ≤ w.heap.size) :
    Calls Try.prog 36 #[x0] w (Ret (Tup2 (OwnB B 5 (fourPutR H).1) (Is (.int .i64 (fourPutR H).2))) w) := by
 have hs16 := hH.1
 have hd16 := hH.2
 refine enter Try.func36 rfl Try.ntmps36 (k := 1) rfl (by decide) (fun a0 hr hargs => ?_)
 have s0 := sarg h0 (hargs 0 (by decide))
 clear hargs
 refine sq ?_
 refine wp_reg 109 [[(0, none)], [], []] [?b1_0, ?b1_1, ?b1_2] mixed hr ?t1 ?o1 ?_
 case o1 =>
  apply oc0; intro A W hx hf
  exact ok_boxS (fourS2 H) [1, 1, 1, 1, 1, 1, 1, 1, 1, 16, 1, 16] (o1 s0 hx (r0 hf)) (by exact fourS2_lens hH) hx.size
  apply oc0; intro A W hx hf
  exact ok_assignv (OwnBA 0 w.heap.size 5 []) (fun _ => ownBA_nil)
  apply oc0; intro A W hx hf
  exact ok_assignc
  exact onn
 case t1 => exact inferInstance
 clear hr; intro a2 w2 x hr hd hs
 clear s0
 have s1 := fa ?b1_0 a2 w2 1 (hd 0 1 rfl)
 obtain ⟨g2_1, q2_1⟩ := PxN.at s1; clear s1; have n2_1 := PxS.lt q2_1
 have s1 := q2_1; clear q2_1
 have e_w := x; clear hd hs x
 refine es ?_
 refine sq ?_
 refine wp_reg 109 ([(1, none)] :: [(8, some 0)] :: [(9, some 1)] :: [(10, some 2)] :: [(1, none), (11, some 3)] :: [(12, some 4), (11, some 3)] :: [(13, some 5), (11, some 3)] :: [(11, some 3), (14, some 6)] :: [(15, some 7)] :: [(1, none), (16, some 8)] :: [(17, some 9), (16, some 8)] :: [(18, some 10), (16, some 8)] :: [(19, some 11), (16, some 8)] :: [(16, some 8), (20, some 12)] :: [(21, some 13)] :: [(1, none), (22, some 14)] :: [(23, some 15), (22, some 14)] :: [(24, some 16), (22, some 14)] :: [(25, some 17), (22, some 14)] :: [(22, some 14), (26, some 18)] :: [(27, some 19)] :: [(1, none), (28, some 20)] :: [(29, some 21), (28, some 20)] :: [(30, some 22), (28, some 20)] :: [(31, some 23), (28, some 20)] :: [(28, some 20), (32, some 24)] :: [(33, some 25)] :: [(1, none), (34, some 26)] :: [(35, some 27), (34, some 26)] :: [(36, some 28), (34, some 26)] :: [(37, some 29), (34, some 26)] :: [(34, some 26), (38, some 30)] :: [(39, some 31)] :: [(1, none), (40, some 32)] :: [(41, some 33), (40, some 32)] :: [(42, some 34), (40, some 32)] :: [(43, some 35), (40, some 32)] :: [(40, some 32), (44, some 36)] :: [(45, some 37)] :: [(1, none), (46, some 38)] :: [(47, some 39), (46, some 38)] :: [(46, some 38), (48, some 40)] :: [(49, some 41)] :: [(1, none), (50, some 42)] :: [(51, some 43), (50, some 42)] :: [(52, some 44), (50, some 42)] :: [(53, some 45), (50, some 42)] :: [(50, some 42), (54, some 46)] :: [(55, some 47)] :: [(1, none), (56, some 48)] :: [(57, some 49), (56, some 48)] :: [(58, some 50), (56, some 48)] :: [(59, some 51), (56, some 48)] :: [(56, some 48), (60, some 52)] :: []) (?b3_0 :: ?b3_1 :: ?b3_2 :: ?b3_2 :: ?b3_4 :: ?b3_5 :: ?b3_6 :: ?b3_7 :: ?b3_7 :: ?b3_9 :: ?b3_10 :: ?b3_11 :: ?b3_12 :: ?b3_13 :: ?b3_13 :: ?b3_15 :: ?b3_16 :: ?b3_17 :: ?b3_18 :: ?b3_19 :: ?b3_19 :: ?b3_21 :: ?b3_22 :: ?b3_23 :: ?b3_24 :: ?b3_25 :: ?b3_25 :: ?b3_27 :: ?b3_28 :: ?b3_29 :: ?b3_30 :: ?b3_31 :: ?b3_31 :: ?b3_33 :: ?b3_34 :: ?b3_35 :: ?b3_36 :: ?b3_37 :: ?b3_37 :: ?b3_39 :: ?b3_40 :: ?b3_41 :: ?b3_41 :: ?b3_43 :: ?b3_44 :: ?b3_45 :: ?b3_46 :: ?b3_47 :: ?b3_47 :: ?b3_49 :: ?b3_50 :: ?b3_51 :: ?b3_52 :: ?b3_53 :: []) mixed hr ?t3 ?o3 ?_
 case o3 =>
  apply oc0; intro A W hx hf
  exact ok_fieldS 0 tu71 (k := 0) rfl size3 rfl (o1 s1 hx (r0 hf)) rfl
  apply oc0; intro A W hx hf
  exact ok_loadS tu3 rfl (q0 ?b3_0 A W 8 hf) rfl
  apply oc0; intro A W hx hf
  exact ok_neq (q0 ?b3_1 A W 9 hf) (ec A (.int .i64 20))
  apply oc0; intro A W hx hf
  exact ok_move (q0 ?b3_2 A W 10 hf)
  refine ocg 11 ?_ (fun A W hx hf => ?_) ?_
  rfl
  exact gd_f (q1 ?b3_2 A W 11 hf) (fun hc => ok_fieldS 1 tu71 (k := 1) rfl size3 rfl (o1 s1 hx (r0 hf)) rfl)
  refine ocg 11 ?_ (fun A W hx hf => ?_) ?_
  rfl
  exact gd_f (q1 ?b3_2 A W 11 hf) (fun hc => ok_loadS tu3 rfl (G.get (q0 ?b3_4 A W 12 hf) hc) rfl)
  refine ocg 11 ?_ (fun A W hx hf => ?_) ?_
  rfl
  exact gd_f (q1 ?b3_2 A W 11 hf) (fun hc => ok_lss (G.get (q0 ?b3_5 A W 13 hf) hc) (ec A (.int .i64 20)))
  apply oc0; intro A W hx hf
  exact ok_or (q0 ?b3_2 A W 11 hf) (q1 ?b3_6 A W 14 hf)
  apply oc0; intro A W hx hf
  exact ok_move (q0 ?b3_7 A W 15 hf)
  refine ocg 16 ?_ (fun A W hx hf => ?_) ?_
  rfl
  exact gd_f (q1 ?b3_7 A W 16 hf) (fun hc => ok_fieldS 1 tu71 (k := 1) rfl size3 rfl (o1 s1 hx (r0 hf)) rfl)
  refine ocg 16 ?_ (fun A W hx hf => ?_) ?_
  rfl
  exact gd_f (q1 ?b3_7 A W 16 hf) (fun hc => ok_loadS tu3 rfl (G.get (q0 ?b3_9 A W 17 hf) hc) rfl)
  refine ocg 16 ?_ (fun A W hx hf => ?_) ?_
  rfl
  exact gd_f (q1 ?b3_7 A W 16 hf) (fun hc => ok_call2 body66 (c_in (G.get (q0 ?b3_10 A W 18 hf) hc) (show Is (.int .i64 65535) (A.eval (.const (.int .i64 65535))) _ from rfl)))
  refine ocg 16 ?_ (fun A W hx hf => ?_) ?_
  rfl
  exact gd_f (q1 ?b3_7 A W 16 hf) (fun hc => ok_not (G.get (q0 ?b3_11 A W 19 hf) hc))
  apply oc0; intro A W hx hf
  exact ok_or (q0 ?b3_7 A W 16 hf) (q1 ?b3_12 A W 20 hf)
  apply oc0; intro A W hx hf
  exact ok_move (q0 ?b3_13 A W 21 hf)
  refine ocg 22 ?_ (fun A W hx hf => ?_) ?_
  rfl
  exact gd_f (q1 ?b3_13 A W 22 hf) (fun hc => ok_fieldS 2 tu71 (k := 2) rfl size3 rfl (o1 s1 hx (r0 hf)) rfl)
  refine ocg 22 ?_ (fun A W hx hf => ?_) ?_
  rfl
  exact gd_f (q1 ?b3_13 A W 22 hf) (fun hc => ok_loadS tu3 rfl (G.get (q0 ?b3_15 A W 23 hf) hc) rfl)
  refine ocg 22 ?_ (fun A W hx hf => ?_) ?_
  rfl
  exact gd_f (q1 ?b3_13 A W 22 hf) (fun hc => ok_call2 body66 (c_in (G.get (q0 ?b3_16 A W 24 hf) hc) (show Is (.int .i64 255) (A.eval (.const (.int .i64 255))) _ from rfl)))
  refine ocg 22 ?_ (fun A W hx hf => ?_) ?_
  rfl
  exact gd_f (q1 ?b3_13 A W 22 hf) (fun hc => ok_not (G.get (q0 ?b3_17 A W 25 hf) hc))
  apply oc0; intro A W hx hf
  exact ok_or (q0 ?b3_13 A W 22 hf) (q1 ?b3_18 A W 26 hf)
  apply oc0; intro A W hx hf
  exact ok_move (q0 ?b3_19 A W 27 hf)
  refine ocg 28 ?_ (fun A W hx hf => ?_) ?_
  rfl
  exact gd_f (q1 ?b3_19 A W 28 hf) (fun hc => ok_fieldS 6 tu71 (k := 6) rfl size3 rfl (o1 s1 hx (r0 hf)) rfl)
  refine ocg 28 ?_ (fun A W hx hf => ?_) ?_
  rfl
  exact gd_f (q1 ?b3_19 A W 28 hf) (fun hc => ok_loadS tu3 rfl (G.get (q0 ?b3_21 A W 29 hf) hc) rfl)
  refine ocg 28 ?_ (fun A W hx hf => ?_) ?_
  rfl
  exact gd_f (q1 ?b3_19 A W 28 hf) (fun hc => ok_call2 body66 (c_in (G.get (q0 ?b3_22 A W 30 hf) hc) (show Is (.int .i64 255) (A.eval (.const (.int .i64 255))) _ from rfl)))
  refine ocg 28 ?_ (fun A W hx hf => ?_) ?_
  rfl
  exact gd_f (q1 ?b3_19 A W 28 hf) (fun hc => ok_not (G.get (q0 ?b3_23 A W 31 hf) hc))
  apply oc0; intro A W hx hf
  exact ok_or (q0 ?b3_19 A W 28 hf) (q1 ?b3_24 A W 32 hf)
  apply oc0; intro A W hx hf
  exact ok_move (q0 ?b3_25 A W 33 hf)
  refine ocg 34 ?_ (fun A W hx hf => ?_) ?_
  rfl
  exact gd_f (q1 ?b3_25 A W 34 hf) (fun hc => ok_fieldS 7 tu71 (k := 7) rfl size3 rfl (o1 s1 hx (r0 hf)) rfl)
  refine ocg 34 ?_ (fun A W hx hf => ?_) ?_
  rfl
  exact gd_f (q1 ?b3_25 A W 34 hf) (fun hc => ok_loadS tu3 rfl (G.get (q0 ?b3_27 A W 35 hf) hc) rfl)
  refine ocg 34 ?_ (fun A W hx hf => ?_) ?_
  rfl
  exact gd_f (q1 ?b3_25 A W 34 hf) (fun hc => ok_call2 body66 (c_in (G.get (q0 ?b3_28 A W 36 hf) hc) (show Is (.int .i64 255) (A.eval (.const (.int .i64 255))) _ from rfl)))
  refine ocg 34 ?_ (fun A W hx hf => ?_) ?_
  rfl
  exact gd_f (q1 ?b3_25 A W 34 hf) (fun hc => ok_not (G.get (q0 ?b3_29 A W 37 hf) hc))
  apply oc0; intro A W hx hf
  exact ok_or (q0 ?b3_25 A W 34 hf) (q1 ?b3_30 A W 38 hf)
  apply oc0; intro A W hx hf
  exact ok_move (q0 ?b3_31 A W 39 hf)
  refine ocg 40 ?_ (fun A W hx hf => ?_) ?_
  rfl
  exact gd_f (q1 ?b3_31 A W 40 hf) (fun hc => ok_fieldS 3 tu71 (k := 3) rfl size3 rfl (o1 s1 hx (r0 hf)) rfl)
  refine ocg 40 ?_ (fun A W hx hf => ?_) ?_
  rfl
  exact gd_f (q1 ?b3_31 A W 40 hf) (fun hc => ok_loadS tu3 rfl (G.get (q0 ?b3_33 A W 41 hf) hc) rfl)
  refine ocg 40 ?_ (fun A W hx hf => ?_) ?_
  rfl
  exact gd_f (q1 ?b3_31 A W 40 hf) (fun hc => ok_call2 body66 (c_in (G.get (q0 ?b3_34 A W 42 hf) hc) (show Is (.int .i64 65535) (A.eval (.const (.int .i64 65535))) _ from rfl)))
  refine ocg 40 ?_ (fun A W hx hf => ?_) ?_
  rfl
  exact gd_f (q1 ?b3_31 A W 40 hf) (fun hc => ok_not (G.get (q0 ?b3_35 A W 43 hf) hc))
  apply oc0; intro A W hx hf
  exact ok_or (q0 ?b3_31 A W 40 hf) (q1 ?b3_36 A W 44 hf)
  apply oc0; intro A W hx hf
  exact ok_move (q0 ?b3_37 A W 45 hf)
  refine ocg 46 ?_ (fun A W hx hf => ?_) ?_
  rfl
  exact gd_f (q1 ?b3_37 A W 46 hf) (fun hc => ok_fieldS 4 tu71 (k := 4) rfl size4 rfl (o1 s1 hx (r0 hf)) rfl)
  refine ocg 46 ?_ (fun A W hx hf => ?_) ?_
  rfl
  exact gd_f (q1 ?b3_37 A W 46 hf) (fun hc => ok_loadS tu4 rfl (G.get (q0 ?b3_39 A W 47 hf) hc) rfl)
  apply oc0; intro A W hx hf
  exact ok_or (q0 ?b3_37 A W 46 hf) (q1 ?b3_40 A W 48 hf)
  apply oc0; intro A W hx hf
  exact ok_move (q0 ?b3_41 A W 49 hf)
  refine ocg 50 ?_ (fun A W hx hf => ?_) ?_
  rfl
  exact gd_f (q1 ?b3_41 A W 50 hf) (fun hc => ok_fieldS 8 tu71 (k := 8) rfl size26 rfl (o1 s1 hx (r0 hf)) rfl)
  refine ocg 50 ?_ (fun A W hx hf => ?_) ?_
  rfl
  exact gd_f (q1 ?b3_41 A W 50 hf) (fun hc => ok_loadAggS 10 tu26 rfl size26 (G.get (q0 ?b3_43 A W 51 hf) hc) rfl)
  refine ocg 50 ?_ (fun A W hx hf => ?_) ?_
  rfl
  exact gd_f (q1 ?b3_41 A W 50 hf) (fun hc => ok_call1 body67 (c_short (Is.conv (G.get (q0 ?b3_44 A W 52 hf) hc) (adr_seg H.src)) (by exact hH.1)))
  refine ocg 50 ?_ (fun A W hx hf => ?_) ?_
  rfl
  exact gd_f (q1 ?b3_41 A W 50 hf) (fun hc => ok_not (G.get (q0 ?b3_45 A W 53 hf) hc))
  apply oc0; intro A W hx hf
  exact ok_or (q0 ?b3_41 A W 50 hf) (q1 ?b3_46 A W 54 hf)
  apply oc0; intro A W hx hf
  exact ok_move (q0 ?b3_47 A W 55 hf)
  refine ocg 56 ?_ (fun A W hx hf => ?_) ?_
  rfl
  exact gd_f (q1 ?b3_47 A W 56 hf) (fun hc => ok_fieldS 10 tu71 (k := 9) rfl size26 rfl (o1 s1 hx (r0 hf)) rfl)
  refine ocg 56 ?_ (fun A W hx hf => ?_) ?_
  rfl
  exact gd_f (q1 ?b3_47 A W 56 hf) (fun hc => ok_loadAggS 12 tu26 rfl size26 (G.get (q0 ?b3_49 A W 57 hf) hc) rfl)
  refine ocg 56 ?_ (fun A W hx hf => ?_) ?_
  rfl
  exact gd_f (q1 ?b3_47 A W 56 hf) (fun hc => ok_call1 body67 (c_short (Is.conv (G.get (q0 ?b3_50 A W 58 hf) hc) (adr_seg H.dst)) (by exact hH.2)))
  refine ocg 56 ?_ (fun A W hx hf => ?_) ?_
  rfl
  exact gd_f (q1 ?b3_47 A W 56 hf) (fun hc => ok_not (G.get (q0 ?b3_51 A W 59 hf) hc))
  apply oc0; intro A W hx hf
  exact ok_or (q0 ?b3_47 A W 56 hf) (q1 ?b3_52 A W 60 hf)
  exact onn
 case t3 => repeat (first | exact stb_nil | refine stb_cons ?_)
 clear hr; intro a4 w4 x hr hd hs
 revert s1; refine kp1 hs rfl ?_; intro s1
 have s61 := fa ?b3_53 a4 w4 61 (hd 53 61 rfl)
 replace e_w := e_w.trans x
 have e_w2 := x; clear hd hs x
 refine et ?_
 refine wp_cond_split (show _ = _ from s61) (fun hr9 => ?_) (fun hr9 => ?_)
 ·
  have hr9 : fourRight H = false := by have q9 := four_right H; rw [hr9] at q9; simpa using q9.symm
  refine sq ?_
  refine wp_reg 109 [[], []] [?b6_0, ?b6_1] mixed hr ?t6 ?o6 ?_
  case o6 =>
   apply oc0; intro A W hx hf
   exact ok_assignv (OwnBA 0 w.heap.size 5 []) (fun _ => ownBA_nil)
   apply oc0; intro A W hx hf
   exact ok_assignc
   exact onn
  case t6 => exact inferInstance
  clear hr; intro a7 w7 x hr hd hs
  clear s1 s61
  have s2 := fa ?b6_0 a7 w7 2 (hd 0 2 rfl)
  have s3 := fa ?b6_1 a7 w7 3 (hd 1 3 rfl)
  replace e_w := e_w.trans x
  clear e_w2; clear hd hs x
  refine et ?_
  refine wp_ret ?_
  refine then_ret ?_
  refine ret_tmp2 Try.results36 hr e_w ?_
  first | exact ⟨_, _, rfl, OwnB.cast (OwnB.mono s2.own hB) (by unfold fourPutR; rw [if_neg (by rw [hr9]; decide)]), Is.int s3 (by unfold fourPutR; rw [if_neg (by rw [hr9]; decide)])⟩ | exact ⟨_, _, rfl, OwnB.cast (OwnB.mono s2.own hB) (by unfold fourPutR; rw [if_pos hr9]), Is.int s3 (by unfold fourPutR; rw [if_pos hr9])⟩
 have hr9 : fourRight H = true := by have q9 := four_right H; rw [hr9] at q9; simpa using q9.symm
 obtain ⟨k1, k2, k3, k4, k5, k6, k7⟩ := fourRight_bd hr9
 refine wp_skip ?_
 refine es ?_
 refine wp_reg 109 [[]] [?b8_0] mixed hr ?t8 ?o8 ?_
 case o8 =>
  apply oc0; intro A W hx hf
  exact ok_assignc
  exact onn
 case t8 => exact inferInstance
 clear hr; intro a9 w9 x hr hd hs
 revert s1; refine kp1 hs rfl ?_; intro s1
 clear s61
 have s4 := fa ?b8_0 a9 w9 4 (hd 0 4 rfl)
 replace e_w := e_w.trans x
 replace e_w2 := e_w2.trans x; clear hd hs x
 refine es ?_
 refine sq ?_
 refine wp_reg 109 [[(1, none)], [(62, some 0)]] [?b10_0, ?b10_1] mixed hr ?t10 ?o10 ?_
 case o10 =>
  apply oc0; intro A W hx hf
  exact ok_fieldS 5 tu71 (k := 5) rfl size4 rfl (o2 s1 e_w2 hx (r0 hf)) rfl
  apply oc0; intro A W hx hf
  exact ok_loadS tu4 rfl (q0 ?b10_0 A W 62 hf) rfl
  exact onn
 case t10 => exact inferInstance
 clear hr; intro a11 w11 x hr hd hs
 revert s4; revert s1; refine kp2 hs rfl ?_; intro s1 s4
 have s63 := fa ?b10_1 a11 w11 63 (hd 1 63 rfl)
 replace e_w := e_w.trans x
 replace e_w2 := e_w2.trans x
 have e_w9 := x; clear hd hs x
 refine et ?_
 refine wp_cut (fun A W => Fr 109 A ∧ Same D_c_four_Put_0 a11 A ∧ Ext w W ∧ (PxS g2_1 w.heap.size [1, 1, 1, 1, 1, 1, 1, 1, 1, 16, 1, 16] (fourS2 H) 0) (A.eval (.tmp 1)) W ∧ (Is (.int .i64 (if H.keep then 16384 else 0))) (A.eval (.tmp 4)) W) ?cut12 ?_
 case cut12 =>
  have m12 : Same D_c_four_Put_0 a11 a11 := Same.rfl
  refine wp_cond_split (show _ = _ from s63) (fun hk => ?_) (fun hk => ?_)
  ·
   skip
   refine wp_reg 109 [[]] [?b14_0] mixed hr ?t14 ?o14 ?_
   case o14 =>
    apply oc0; intro A W hx hf
    exact ok_assignc
    exact onn
   case t14 => exact inferInstance
   clear hr; intro a15 w15 x hr hd hs
   revert s1; refine kp1 hs rfl ?_; intro s1
   clear s4 s63
   have s4 := fa ?b14_0 a15 w15 4 (hd 0 4 rfl)
   replace e_w := e_w.trans x
   replace e_w2 := e_w2.trans x
   clear e_w9
   replace m12 := m12.tr hs rfl; clear hd hs x
   refine et ?_
   refine ⟨hr, m12, e_w, ?_, ?_⟩
   · first | exact (later e_w2 s1) | exact Is.int (later e_w2 s1) (by first | omega | simp) | exact Is.bool (later e_w2 s1) (by first | omega | simp)
   · first | exact Is.int s4 (by rw [if_pos hk]) | exact Is.int s4 (by rw [if_neg (by rw [hk]; decide)])
  skip
  refine wp_skip ?_
  refine et ?_
  refine ⟨hr, m12, e_w, ?_, ?_⟩
  · first | exact (later e_w2 s1) | exact Is.int (later e_w2 s1) (by first | omega | simp) | exact Is.bool (later e_w2 s1) (by first | omega | simp)
  · first | exact Is.int (later e_w9 s4) (by rw [if_pos hk]) | exact Is.int (later e_w9 s4) (by rw [if_neg (by rw [hk]; decide)])
 intro a12 w12 hI
 clear e_w
 clear e_w2
 clear e_w9
 clear hr; obtain ⟨hr, hs, e_w, u1, u4⟩ := hI
 clear s1 s4 s63
 have s1 := u1; clear u1
 have s4 := u4; clear u4
 clear hs
 refine sq ?_
 refine wp_reg 109 [[(1, none)], [(64, some 0)], [(65, some 1)], [(66, some 2)], [(67, some 3)]] [?b16_0, ?b16_1, ?b16_2, ?b16_3, ?b16_3] mixed hr ?t16 ?o16 ?_
 case o16 =>
  apply oc0; intro A W hx hf
  exact ok_fieldS 2 tu71 (k := 2) rfl size3 rfl (o1 s1 hx (r0 hf)) rfl
  apply oc0; intro A W hx hf
  exact ok_loadS tu3 rfl (q0 ?b16_0 A W 64 hf) rfl
  apply oc0; intro A W hx hf
  exact ok_conv8 tu3 tu5 (q0 ?b16_1 A W 65 hf)
  apply oc0; intro A W hx hf
  exact ok_ownBs [(.const (.int .u8 69)), (.tmp 66)] [_, _] tu22 size5 zero5 rfl rfl (by decide) hx.size (PartsOk.cons (show ByteIs 69 _ _ from rfl) (PartsOk.cons (q0 ?b16_2 A W 66 hf) (PartsOk.nil)))
  apply oc0; intro A W hx hf
  exact ok_assign (q0 ?b16_3 A W 67 hf)
  exact onn
 case t16 => exact inferInstance
 clear hr; intro a17 w17 x hr hd hs
 have z_w_w12 := e_w.size
 have l17_1 := PxS.lt s1
 revert s4; revert s1; refine kp2 hs rfl ?_; intro s1 s4
 have s5 := fa ?b16_3 a17 w17 5 (hd 4 5 rfl)
 obtain ⟨g17_5, q17_5⟩ := OwnB.at s5; clear s5; have n17_5 := OwnBA.lt q17_5
 replace q17_5 := OwnBA.mono q17_5 e_w.size
 have s5 := q17_5; clear q17_5
 replace e_w := e_w.trans x
 have e_w12 := x; clear hd hs x
 refine es ?_
 refine sq ?_
 refine wp_reg 109 [[(1, none)], [(68, some 0)], [(1, none)], [(70, some 2)], [(4, none)], [(1, none)], [(73, some 5)], [(74, some 6)], [(1, none)], [(76, some 8)], [(75, some 7), (77, some 9)], [(69, some 1), (71, some 3), (72, some 4), (78, some 10)], [(79, some 11)], []] [?b18_0, ?b18_1, ?b18_2, ?b18_3, ?b18_4, ?b18_5, ?b18_6, ?b18_7, ?b18_8, ?b18_9, ?b18_10, ?b18_11, ?b18_12, ?b18_13] mixed hr ?t18 ?o18 ?_
 case o18 =>
  apply oc0; intro A W hx hf
  exact ok_fieldS 1 tu71 (k := 1) rfl size3 rfl (o2 s1 e_w12 hx (r0 hf)) rfl
  apply oc0; intro A W hx hf
  exact ok_loadS tu3 rfl (q0 ?b18_0 A W 68 hf) rfl
  apply oc0; intro A W hx hf
  exact ok_fieldS 3 tu71 (k := 3) rfl size3 rfl (o2 s1 e_w12 hx (r0 hf)) rfl
  apply oc0; intro A W hx hf
  exact ok_loadS tu3 rfl (q0 ?b18_2 A W 70 hf) rfl
  apply oc0; intro A W hx hf
  exact ok_movE (a0 := a17) (r0 hf)
  apply oc0; intro A W hx hf
  exact ok_fieldS 6 tu71 (k := 6) rfl size3 rfl (o2 s1 e_w12 hx (r0 hf)) rfl
  apply oc0; intro A W hx hf
  exact ok_loadS tu3 rfl (q0 ?b18_5 A W 73 hf) rfl
  apply oc0; intro A W hx hf
  exact ok_shl 8 (by decide) (q0 ?b18_6 A W 74 hf) (ec A (.int .u64 8))
  apply oc0; intro A W hx hf
  exact ok_fieldS 7 tu71 (k := 7) rfl size3 rfl (o2 s1 e_w12 hx (r0 hf)) rfl
  apply oc0; intro A W hx hf
  exact ok_loadS tu3 rfl (q0 ?b18_8 A W 76 hf) rfl
  apply oc0; intro A W hx hf
  exact ok_orb (q0 ?b18_7 A W 75 hf) (q1 ?b18_9 A W 77 hf)
  apply oc0; intro A W hx hf
  exact ok_ownNs [(.tmp 69), (.tmp 71), (.tmp 72), (.tmp 78), (.const (.int .i64 0))] [_, _, _, _, _] tu110 size3 zero3 rfl rfl (by decide) hx.size (PartsOk.cons (q0 ?b18_1 A W 69 hf) (PartsOk.cons (q1 ?b18_3 A W 71 hf) (PartsOk.cons (p2 s4 e_w12 hx (q2 ?b18_4 A W 72 hf)) (PartsOk.cons (q3 ?b18_10 A W 78 hf) (PartsOk.cons (show Is (.int .i64 0) _ _ from rfl) (PartsOk.nil))))))
  apply oc0; intro A W hx hf
  exact ok_len_ns tu110 (OwnN.ns (q0 ?b18_11 A W 79 hf))
  apply oc0; intro A W hx hf
  exact ok_movec
  exact onn
 case t18 => exact inferInstance
 clear hr; intro a19 w19 x hr hd hs
 have z_w_w17 := e_w.size
 have z_w12_w17 := e_w12.size
 have l19_1 := PxS.lt (later e_w12 s1)
 have l19_5 := OwnBA.lt s5
 revert s5; revert s1; refine kp2 hs rfl ?_; intro s1 s5
 clear s4
 have s79 := fa ?b18_11 a19 w19 79 (hd 11 79 rfl)
 have s80 := fa ?b18_12 a19 w19 80 (hd 12 80 rfl)
 have s81 := fa ?b18_13 a19 w19 81 (hd 13 81 rfl)
 obtain ⟨g19_79, q19_79⟩ := OwnN.at s79; clear s79; have n19_79 := OwnNA.lt q19_79
 replace q19_79 := OwnNA.mono q19_79 e_w.size
 have s79 := q19_79; clear q19_79
 replace e_w := e_w.trans x
 replace e_w12 := e_w12.trans x
 have e_w17 := x; clear hd hs x
 replace s79 := OwnNA.cast s79 (show _ = L5 H from by unfold L5; rw [or8 k4 k5])
 replace s80 := Is.int s80 (show _ = (5 : Int) from rfl)
 refine et ?_
 refine wp_block ?_
 refine wp_loop_inv (fun n A W => ∃ (i β : Nat), n = 5 - i ∧ Fr 109 A ∧ Same D_c_four_Put_1 a19 A ∧ Ext w W ∧ (i ≤ 5) ∧ (g2_1 ≠ β) ∧ (g19_79 = 0 ∨ g19_79 ≠ β) ∧ (PxS g2_1 w.heap.size [1, 1, 1, 1, 1, 1, 1, 1, 1, 16, 1, 16] (fourS2 H) 0) (A.eval (.tmp 1)) W ∧ (OwnNA g19_79 w.heap.size 3 .i64 (L5 H)) (A.eval (.tmp 79)) W ∧ (OwnBA β w.heap.size 5 (bL5 H i)) (A.eval (.tmp 5)) W ∧ (Is (.int .i64 (i : Int))) (A.eval (.tmp 81)) W) ?start20 ?_
 case start20 =>
  refine ⟨_, 0, g17_5, rfl, hr, Same.rfl, e_w, (by first | assumption | omega), (by first | assumption | omega), (by first | assumption | omega), ?_, ?_, ?_, ?_⟩
  · first | exact (later e_w12 s1) | exact Is.int (later e_w12 s1) (by first | omega | simp) | exact Is.bool (later e_w12 s1) (by first | omega | simp)
  · first | exact s79 | exact Is.int s79 (by first | omega | simp) | exact Is.bool s79 (by first | omega | simp)
  · exact (later e_w17 s5)
  · exact s81
 intro n20 a20 w20 hI
 clear e_w
 clear e_w12
 clear e_w17
 clear hr; obtain ⟨i, β, hn20, hr, hs, e_w, hi, ne1, ne2, u1, u79, u5, u81⟩ := hI
 revert s80; refine kp1 hs rfl ?_; intro s80
 clear s1 s5 s81 s79
 have s1 := u1; clear u1
 have s79 := u79; clear u79
 have s5 := u5; clear u5
 have s81 := u81; clear u81
 replace s80 := anyw (w2 := w20) s80
 have m20 := hs; clear hs
 refine sq ?_
 refine wp_reg 109 [[(81, none), (80, none)]] [?b21_0] mixed hr ?t21 ?o21 ?_
 case o21 =>
  apply oc0; intro A W hx hf
  exact ok_lss (o1 s81 hx (r0 hf)) (o1 s80 hx (r1 hf))
  exact onn
 case t21 => exact inferInstance
 clear hr; intro a22 w22 x hr hd hs
 revert s80; revert s81; revert s5; revert s79; revert s1; refine kp5 hs rfl ?_; intro s1 s79 s5 s81 s80
 have s82 := fa ?b21_0 a22 w22 82 (hd 0 82 rfl)
 replace e_w := e_w.trans x
 have e_w20 := x
 replace m20 := m20.tr hs rfl; clear hd hs x
 refine es ?_
 refine wp_cond_split (show _ = _ from s82) (fun hlt => ?_) (fun hlt => ?_)
 ·
  have hlt : i < 5 := by simp at hlt; omega
  have hl5 : i < (L5 H).length := hlt
  have hv5 := L5_bd hr9 hl5
  refine wp_skip ?_
  refine es ?_
  refine wp_block ?_
  refine sq ?_
  refine wp_reg 109 [[(79, none), (81, none)], [(83, some 0)], [(84, some 1)]] [?b24_0, ?b24_1, ?b24_1] mixed hr ?t24 ?o24 ?_
  case o24 =>
   apply oc0; intro A W hx hf
   exact ok_index_ns (_) tu110 size3 (OwnNA.ns (o2 s79 e_w20 hx (r0 hf))) (o2 s81 e_w20 hx (r1 hf)) (by exact hl5)
   apply oc0; intro A W hx hf
   exact ok_loadp tu3 rfl (q0 ?b24_0 A W 83 hf)
   apply oc0; intro A W hx hf
   exact ok_assign (q0 ?b24_1 A W 84 hf)
   exact onn
  case t24 => exact inferInstance
  clear hr; intro a25 w25 x hr hd hs
  revert s80; revert s81; revert s5; revert s79; revert s1; refine kp5 hs rfl ?_; intro s1 s79 s5 s81 s80
  clear s82
  have s7 := fa ?b24_1 a25 w25 7 (hd 2 7 rfl)
  replace e_w := e_w.trans x
  replace e_w20 := e_w20.trans x
  replace m20 := m20.tr hs rfl; clear hd hs x
  refine et ?_
  refine wp_reg_pre (l := [_, _, _, _]) (rest := [_, _]) 109 [[(5, none)], [(7, none)], [(86, some 1)], [(87, some 2)]] [?b26_0, ?b26_1, ?b26_2, ?b26_3] hr ?t26 ?o26 ?_
  case o26 =>
   apply oc0; intro A W hx hf
   exact ok_movE (a0 := a25) (r0 hf)
   apply oc0; intro A W hx hf
   exact ok_movE (a0 := a25) (r0 hf)
   apply oc0; intro A W hx hf
   exact ok_convI tu3 tu105 (by exact IntWalk.u64_in _ (by omega)) (p1 s7 hx (q0 ?b26_1 A W 86 hf))
   apply oc0; intro A W hx hf
   exact ok_call3 body59 (c_Put (q0 ?b26_2 A W 87 hf) (show Is (.int .i64 2) (A.eval (.const (.int .i64 2))) _ from rfl) (show Is (.bool true) (A.eval (.const (.bool true))) _ from rfl) (by omega) hx.size)
   exact onn
  case t26 => exact inferInstance
  clear hr; intro a27 w27 x hr hd hs
  have z_w_w25 := e_w.size
  have z_w20_w25 := e_w20.size
  have l27_1 := PxS.lt (later e_w20 s1)
  have l27_79 := OwnNA.lt (later e_w20 s79)
  have l27_5 := OwnBA.lt (later e_w20 s5)
  have u85 := mv s5 (fa ?b26_0 a27 w27 85 (hd 0 85 rfl))
  revert s80; revert s81; revert s5; revert s79; revert s1; refine kp5 hs rfl ?_; intro s1 s79 s5 s81 s80
  clear s7
  have s85 := u85; clear u85
  have s88 := fa ?b26_3 a27 w27 88 (hd 3 88 rfl)
  obtain ⟨g27_88, q27_88⟩ := OwnB.at s88; clear s88; have n27_88 := OwnBA.lt q27_88
  replace q27_88 := OwnBA.mono q27_88 e_w.size
  have s88 := q27_88; clear q27_88
  replace e_w := e_w.trans x
  replace e_w20 := e_w20.trans x
  replace m20 := m20.tr hs rfl; clear hd hs x
  have l28 := OwnBA.lt (later e_w20 s85)
  have l28_1 := PxS.lt (later e_w20 s1)
  have l28_79 := OwnNA.lt (later e_w20 s79)
  refine wl_append_bsA hr (by decide) tu22 info5 rfl (later e_w20 s85) (OwnBA.bs s88) e_w.size (by first | (rw [bL5_len (by omega)]; simp only [put2_len]; omega) | (simp only [List.length_append, bL5_len (Nat.le_refl _), List.length_take]; omega)) ?_; clear hr; intro g28 a28 w28 hg28 hc hr hd hs
  have hb := hc.below e_w.size l28.1
  revert s80; revert s81; revert s79; revert s1; refine kp4 hs rfl ?_; intro s1 s79 s81 s80
  clear s5 s85 s88
  replace s1 := PxS.other (later e_w20 s1) hc (by omega)
  replace s79 := OwnNA.other (later e_w20 s79) hc (by omega)
  have s89 := hd
  replace e_w := e_w.below (Nat.le_refl _) hb
  clear e_w20
  replace s81 := anyw (w2 := w28) s81
  replace s80 := anyw (w2 := w28) s80
  replace m20 := m20.tr hs rfl
  clear hd hs hb hc
  refine wl_op hr (ok_assign s89) inferInstance ?_; clear hr; intro a29 w29 x hr hd hs
  revert s80; revert s81; revert s79; revert s1; refine kp4 hs rfl ?_; intro s1 s79 s81 s80
  clear s89
  have s5 := hd 5 rfl (by decide)
  replace e_w := e_w.trans x
  have e_w28 := x
  replace m20 := m20.tr hs rfl; clear hd hs x
  refine wpList_nil ?_
  refine blk_normal ?_
  refine et ?_
  refine wp_reg 109 [[(81, none)], [(90, some 0)]] [?b30_0, ?b30_0] mixed hr ?t30 ?o30 ?_
  case o30 =>
   apply oc0; intro A W hx hf
   exact ok_addI (o2 s81 e_w28 hx (r0 hf)) (ec A (.int .i64 1)) (by omega)
   apply oc0; intro A W hx hf
   exact ok_move (q0 ?b30_0 A W 90 hf)
   exact onn
  case t30 => exact inferInstance
  clear hr; intro a31 w31 x hr hd hs
  revert s5; revert s80; revert s79; revert s1; refine kp4 hs rfl ?_; intro s1 s79 s80 s5
  clear s81
  have s81 := fa ?b30_0 a31 w31 81 (hd 1 81 rfl)
  replace e_w := e_w.trans x
  replace e_w28 := e_w28.trans x
  have e_w29 := x
  replace m20 := m20.tr hs rfl; clear hd hs x
  refine et ?_
  refine ⟨(fun (i β : Nat) => 5 - i) (i + 1) (0), ?_, ?_⟩
  · (try dsimp only); omega
  refine ⟨i + 1, g28, rfl, hr, m20, e_w, (by first | assumption | omega), (by first | assumption | omega), (by first | assumption | omega), ?_, ?_, ?_, ?_⟩
  · first | exact (later e_w28 s1) | exact Is.int (later e_w28 s1) (by first | omega | simp) | exact Is.bool (later e_w28 s1) (by first | omega | simp)
  · first | exact (later e_w28 s79) | exact Is.int (later e_w28 s79) (by first | omega | simp) | exact Is.bool (later e_w28 s79) (by first | omega | simp)
  · exact OwnBA.cast (later e_w29 s5) (bL5_step hl5)
  · exact s81
 have hlt : i = 5 := by simp at hlt; omega
 subst hlt
 refine wp_exit ?_
 refine then_exit ?_
 refine then_exit ?_
 refine blk_exit ?_
 refine es ?_
 refine wp_any_start mixed (fun w32 x => ?_)
 show wpAny _ _ _ _ 10 _ _ _
 replace e_w := e_w.trans x
 replace e_w20 := e_w20.trans x
 have e_w22 := x
 clear x
 refine any_op (i := 5) hr rfl (by decide) (by kernel_rfl) (fun _ _ _ _ h => h) (py_of (ok_fieldS 10 tu71 (k := 9) rfl size26 rfl (later e_w20 s1) rfl) (pv_field tu71 (k := 9) rfl size26 rfl (PxS.cells (later e_w20 s1)))) ?_; clear hr; intro a33 hr hd hs
 revert s5; revert s1; refine kp2 hs rfl ?_; intro s1 s5
 clear s79 s81 s80 s82
 have s96 := hd
 clear hd hs
 refine any_op (i := 6) hr rfl (by decide) (by kernel_rfl) (fun _ _ _ _ h => h) (py_of (ok_fieldS 11 tu26 (k := 1) rfl size24 rfl s96 rfl) (pv_field tu26 (k := 1) rfl size24 rfl (PxS.cells s96))) ?_; clear hr; intro a34 hr hd hs
 revert s96; revert s5; revert s1; refine kp3 hs rfl ?_; intro s1 s5 s96
 have s97 := hd
 clear hd hs
 refine any_op (i := 7) hr rfl (by decide) (by kernel_rfl) (fun _ _ _ _ h => h) (py_of (ok_sliceSh (4) tu24 size5 s97 rfl (ec a34 (.int .i64 4)) (by first | omega | decide | (simp; done) | (simp; omega))) (pv_arr_hi (hi := 4) tu24 size5 (PxS.cells s97) (ec a34 (.int .i64 4)) (by first | omega | decide))) ?_; clear hr; intro a35 hr hd hs
 revert s97; revert s96; revert s5; revert s1; refine kp4 hs rfl ?_; intro s1 s5 s96 s97
 have s98 := hd
 clear hd hs
 refine wp_sel (l := [_, _, _, _, _, _, _, _, _, _]) 109 _ [false, false, false, false, true, true, true, true, true, true] [4, 8, 9] [[(5, none)], [(1, none)], [(92, some 1)], [(93, some 2)], [], [], [], [], [], []] [?b36_0, ?b36_1, ?b36_2, ?b36_3, VP.top, VP.top, VP.top, VP.top, VP.top, VP.top] (by kernel_rfl) rfl (by kernel_rfl) hr ?t36 ?o36 ?_
 case o36 =>
  apply lc0; intro A W hx hf
  exact ok_movE (a0 := a35) (r0 hf)
  apply lc0; intro A W hx hf
  exact ok_fieldS 8 tu71 (k := 8) rfl size26 rfl (o2 s1 e_w20 hx (r0 hf)) rfl
  apply lc0; intro A W hx hf
  exact ok_fieldS 9 tu26 (k := 1) rfl size24 rfl (q0 ?b36_1 A W 92 hf) rfl
  apply lc0; intro A W hx hf
  exact ok_sliceSh (4) tu24 size5 (q0 ?b36_2 A W 93 hf) rfl (ec A (.int .i64 4)) (by first | omega | decide | (simp; done) | (simp; omega))
  refine lcs ?_
  refine lcs ?_
  refine lcs ?_
  refine lcs ?_
  refine lcs ?_
  refine lcs ?_
  exact lcn
 case t36 => exact inferInstance
 clear hr; intro a37 w37 x hr hd hs
 have u91 := mv s5 (fa ?b36_0 a37 w37 91 (hd 0 91 rfl rfl))
 revert s98; revert s97; revert s96; revert s5; revert s1; refine kp5 hs rfl ?_; intro s1 s5 s96 s97 s98
 have s91 := u91; clear u91
 have s92 := fa ?b36_1 a37 w37 92 (hd 1 92 rfl rfl)
 have s93 := fa ?b36_2 a37 w37 93 (hd 2 93 rfl rfl)
 have s94 := fa ?b36_3 a37 w37 94 (hd 3 94 rfl rfl)
 replace e_w := e_w.trans x
 replace e_w20 := e_w20.trans x
 clear e_w22
 have e_w32 := x; clear hd hs x
 show wpList _ _ _ [_, _, _] _ _
 have l38 := OwnBA.lt (later e_w20 s91)
 have l38_98 := SxS.lt (later e_w32 s98)
 refine wl_append_bsA hr (by decide) tu22 info5 rfl (later e_w20 s91) (SxS.hi s94 rfl (by decide)) e_w.size (by first | (rw [bL5_len (by omega)]; simp only [put2_len]; omega) | (simp only [List.length_append, bL5_len (Nat.le_refl _), List.length_take]; omega)) ?_; clear hr; intro g38 a38 w38 hg38 hc hr hd hs
 have hb := hc.below e_w.size l38.1
 revert s98; refine kp1 hs rfl ?_; intro s98
 clear s1 s5 s96 s97 s91 s92 s93 s94
 replace s98 := SxS.other (later e_w32 s98) hc (by omega)
 have s95 := hd
 replace e_w := e_w.below (Nat.le_refl _) hb
 clear e_w20
 clear e_w32
 clear hd hs hb hc
 have l39 := OwnBA.lt s95
 refine wl_append_bsA hr (by decide) tu22 info5 rfl s95 (SxS.hi s98 rfl (by decide)) e_w.size (by first | (rw [bL5_len (by omega)]; simp only [put2_len]; omega) | (simp only [List.length_append, bL5_len (Nat.le_refl _), List.length_take]; omega)) ?_; clear hr; intro g39 a39 w39 hg39 hc hr hd hs
 have hb := hc.below e_w.size l39.1
 clear s98 s95
 have s99 := hd
 replace e_w := e_w.below (Nat.le_refl _) hb
 clear hd hs hb hc
 refine wl_op hr (ok_assign s99) inferInstance ?_; clear hr; intro a40 w40 x hr hd hs
 clear s99
 have s5 := hd 5 rfl (by decide)
 replace e_w := e_w.trans x; clear hd hs x
 refine wpList_nil ?_
 replace s5 := OwnBA.cast s5 (fourB_eq hr9)
 refine es ?_
 have hcb := ck_bd (fourB H)
 refine wp_any_start mixed (fun w41 x => ?_)
 show wpAny _ _ _ _ 8 _ _ _
 replace e_w := e_w.trans x
 have e_w40 := x
 clear x
 refine wp_sel (l := [_, _, _, _, _, _, _, _]) 109 _ [false, false, false, false, false, false, false, true] [7] [[(5, none)], [(100, some 0)], [(5, none)], [(102, some 2)], [(103, some 3)], [(104, some 4)], [(105, some 5)], []] [?b42_0, ?b42_1, ?b42_2, ?b42_3, ?b42_4, ?b42_5, ?b42_6, VP.top] (by kernel_rfl) rfl (by kernel_rfl) hr ?t42 ?o42 ?_
 case o42 =>
  apply lc0; intro A W hx hf
  exact ok_movE (a0 := a40) (r0 hf)
  apply lc0; intro A W hx hf
  exact ok_subA (10) tu22 size5 (p2 s5 e_w40 hx (q0 ?b42_0 A W 100 hf)) (ec A (.int .i64 10)) (by rw [fourB_len hH]; omega)
  apply lc0; intro A W hx hf
  exact ok_movE (a0 := a40) (r0 hf)
  apply lc0; intro A W hx hf
  exact ok_buildBss [(.tmp 102)] [_] tu107 size22 zero22 rfl rfl (by decide) (PartsOk.cons (OwnBA.bs (p2 s5 e_w40 hx (q0 ?b42_2 A W 102 hf))) (PartsOk.nil))
  apply lc0; intro A W hx hf
  exact ok_call1 body68 (c_Sum (q0 ?b42_3 A W 103 hf))
  apply lc0; intro A W hx hf
  exact ok_convI tu46 tu105 (by simp only [List.flatten_cons, List.flatten_nil, List.append_nil]; exact IntWalk.u64_in _ (by omega)) (q0 ?b42_4 A W 104 hf)
  apply lc0; intro A W hx hf
  exact ok_call3 body59 (c_Put (q0 ?b42_5 A W 105 hf) (show Is (.int .i64 2) (A.eval (.const (.int .i64 2))) _ from rfl) (show Is (.bool true) (A.eval (.const (.bool true))) _ from rfl) (by simp only [List.flatten_cons, List.flatten_nil, List.append_nil]; omega) hx.size)
  refine lcs ?_
  exact lcn
 case t42 => exact inferInstance
 clear hr; intro a43 w43 x hr hd hs
 have z_w_w41 := e_w.size
 have z_w40_w41 := e_w40.size
 have l43_5 := OwnBA.lt (later e_w40 s5)
 have u100 := mv s5 (fa ?b42_0 a43 w43 100 (hd 0 100 rfl rfl))
 have u102 := mv s5 (fa ?b42_2 a43 w43 102 (hd 2 102 rfl rfl))
 revert s5; refine kp1 hs rfl ?_; intro s5
 have s100 := u100; clear u100
 have s102 := u102; clear u102
 have s101 := fa ?b42_1 a43 w43 101 (hd 1 101 rfl rfl)
 have s103 := fa ?b42_3 a43 w43 103 (hd 3 103 rfl rfl)
 have s104 := fa ?b42_4 a43 w43 104 (hd 4 104 rfl rfl)
 have s105 := fa ?b42_5 a43 w43 105 (hd 5 105 rfl rfl)
 have s106 := fa ?b42_6 a43 w43 106 (hd 6 106 rfl rfl)
 obtain ⟨g43_106, q43_106⟩ := OwnB.at s106; clear s106; have n43_106 := OwnBA.lt q43_106
 replace q43_106 := OwnBA.mono q43_106 e_w.size
 have s106 := q43_106; clear q43_106
 replace e_w := e_w.trans x
 replace e_w40 := e_w40.trans x; clear hd hs x
 show wpList _ _ _ [_] _ _
 have z44 := SubA.lt s101
 have l44 := (show (g39 = 0 ∨ w.heap.size < g39) ∧ True from ⟨by omega, trivial⟩)
 refine wl_copyA hr tu22 size5 s101 (OwnBA.bs s106) ?_; clear hr; intro a44 w44 hc hu hr hs
 have hb : Below w.heap.size w43 w44 := hc.below e_w.size l44.1
 revert s5; refine kp1 hs rfl ?_; intro s5
 clear s100 s102 s101 s103 s104 s105 s106
 replace s5 := hu _ _ _ (later e_w40 s5)
 replace e_w := e_w.below (Nat.le_refl _) hb
 clear e_w40
 clear hu hs hc hb
 refine wpList_nil ?_
 replace s5 := OwnBA.cast s5 (show _ = fourPut H from by unfold fourPut; rw [fourB_len hH]; simp)
 refine es ?_
 refine wp_reg 109 [[(5, none)], [(108, some 0)], []] [?b45_0, ?b45_0, ?b45_2] mixed hr ?t45 ?o45 ?_
 case o45 =>
  apply oc0; intro A W hx hf
  exact ok_movE (a0 := a44) (r0 hf)
  apply oc0; intro A W hx hf
  exact ok_assign (q0 ?b45_0 A W 108 hf)
  apply oc0; intro A W hx hf
  exact ok_assignc
  exact onn
 case t45 => exact inferInstance
 clear hr; intro a46 w46 x hr hd hs
 have u2 := mv s5 (fa ?b45_0 a46 w46 2 (hd 1 2 rfl))
 clear s5
 have s2 := u2; clear u2
 have s3 := fa ?b45_2 a46 w46 3 (hd 2 3 rfl)
 replace e_w := e_w.trans x
 have e_w44 := x; clear hd hs x
 refine et ?_
 refine wp_ret ?_
 refine ret_tmp2 Try.results36 hr e_w ?_
 first | exact ⟨_, _, rfl, OwnB.cast (OwnB.mono (later e_w44 s2).own hB) (by unfold fourPutR; rw [if_neg (by rw [hr9]; decide)]), Is.int s3 (by unfold fourPutR; rw [if_neg (by rw [hr9]; decide)])⟩ | exact ⟨_, _, rfl, OwnB.cast (OwnB.mono (later e_w44 s2).own hB) (by unfold fourPutR; rw [if_pos hr9]), Is.int s3 (by unfold fourPutR; rw [if_pos hr9])⟩

end Go.Proofs.Ytpjpfmnnefgnbaa
