import Derived.Test.YtpjpfmnnefgnbaaC10
import Derived.Test.YtpjpfmnnefgnbaaC06
namespace Go.Proofs.Ytpjpfmnnefgnbaa
open Go.RowKit
set_option linter.unusedVariables false
set_option linter.unusedSimpArgs false
set_option maxRecDepth 4000

theorem c_pRead {x0 x1 : Value} {w : World} {q : Int} {l : List UInt8} (h0 : Is (.int .i64 q) x0 w) (h1 : Bs l x1 w) : Calls Try.prog 26 #[x0, x1] w (Ret (Tup2 (Is (PortV (portRead q l).1)) (Is (.int .i64 (portRead q l).2))) w) := by
  by_cases h6 : q = 6
  · subst h6; exact c_pRead_tcp h0 h1
  · by_cases h17 : q = 17
    · subst h17; exact c_pRead_udp h0 h1
    · rw [portRead_none h6 h17]; exact c_pRead_none h0 h1 h6 h17
theorem c_pPlace {x0 : Value} {w : World} {q : Int} (h0 : (Is (.int .i64 q)) x0 w)  :
    Calls Try.prog 84 #[x0] w (Ret (Is (.int .i64 (portPlace q))) w) := by
 refine enter Try.func84 rfl Try.ntmps84 (k := 1) rfl (by decide) (fun a0 hr hargs => ?_)
 have s0 := sarg h0 (hargs 0 (by decide))
 clear hargs
 refine sq ?_
 refine wp_reg 8 [[]] [?b1_0] mixed hr ?t1 ?o1 ?_
 case o1 =>
  apply oc0; intro A W hx hf
  exact ok_assignc
  exact onn
 case t1 => exact inferInstance
 clear hr; intro a2 w2 x hr hd hs
 revert s0; refine kp1 hs rfl ?_; intro s0
 have e_w := x; clear hd hs x
 refine es ?_
 refine sq ?_
 refine wp_reg 8 [[(0, none)]] [?b3_0] mixed hr ?t3 ?o3 ?_
 case o3 =>
  apply oc0; intro A W hx hf
  exact ok_movE (a0 := a2) (r0 hf)
  exact onn
 case t3 => exact inferInstance
 clear hr; intro a4 w4 x hr hd hs
 have u3 := mv s0 (fa ?b3_0 a4 w4 3 (hd 0 3 rfl))
 clear s0
 have s3 := u3; clear u3
 replace e_w := e_w.trans x; clear hd hs x
 refine et ?_
 refine wp_block ?_
 refine sq ?_
 refine wp_reg 8 [[(3, none)], [(5, some 0)]] [?b5_0, ?b5_0] mixed hr ?t5 ?o5 ?_
 case o5 =>
  apply oc0; intro A W hx hf
  exact ok_eql (o2 s3 e_w hx (r0 hf)) (ec A (.int .i64 6))
  apply oc0; intro A W hx hf
  exact ok_assign (q0 ?b5_0 A W 5 hf)
  exact onn
 case t5 => exact inferInstance
 clear hr; intro a6 w6 x hr hd hs
 revert s3; refine kp1 hs rfl ?_; intro s3
 have s4 := fa ?b5_0 a6 w6 4 (hd 1 4 rfl)
 replace e_w := e_w.trans x; clear hd hs x
 refine et ?_
 refine wp_cond_split (show _ = _ from s4) (fun h6 => ?_) (fun h6 => ?_)
 ·
  skip
  refine sq ?_
  refine wp_reg 8 [[]] [?b8_0] mixed hr ?t8 ?o8 ?_
  case o8 =>
   apply oc0; intro A W hx hf
   exact ok_assignc
   exact onn
  case t8 => exact inferInstance
  clear hr; intro a9 w9 x hr hd hs
  clear s3 s4
  have s2 := fa ?b8_0 a9 w9 2 (hd 0 2 rfl)
  replace e_w := e_w.trans x; clear hd hs x
  refine et ?_
  refine wp_ret ?_
  refine blk_ret ?_
  refine then_ret ?_
  refine ret_tmp Try.results84 hr e_w ?_
  exact Is.int s2 (by simp [portPlace] at *; simp [*])
 skip
 refine sq ?_
 refine wp_reg 8 [[(3, none)], [(7, some 0)]] [?b10_0, ?b10_0] mixed hr ?t10 ?o10 ?_
 case o10 =>
  apply oc0; intro A W hx hf
  exact ok_eql (o2 s3 e_w hx (r0 hf)) (ec A (.int .i64 17))
  apply oc0; intro A W hx hf
  exact ok_assign (q0 ?b10_0 A W 7 hf)
  exact onn
 case t10 => exact inferInstance
 clear hr; intro a11 w11 x hr hd hs
 clear s3 s4
 have s6 := fa ?b10_0 a11 w11 6 (hd 1 6 rfl)
 replace e_w := e_w.trans x; clear hd hs x
 refine et ?_
 refine wp_cond_split (show _ = _ from s6) (fun h17 => ?_) (fun h17 => ?_)
 ·
  skip
  refine sq ?_
  refine wp_reg 8 [[]] [?b13_0] mixed hr ?t13 ?o13 ?_
  case o13 =>
   apply oc0; intro A W hx hf
   exact ok_assignc
   exact onn
  case t13 => exact inferInstance
  clear hr; intro a14 w14 x hr hd hs
  clear s6
  have s2 := fa ?b13_0 a14 w14 2 (hd 0 2 rfl)
  replace e_w := e_w.trans x; clear hd hs x
  refine et ?_
  refine wp_ret ?_
  refine blk_ret ?_
  refine then_ret ?_
  refine ret_tmp Try.results84 hr e_w ?_
  exact Is.int s2 (by simp [portPlace] at *; simp [*])
 skip
 refine wp_skip ?_
 refine blk_normal ?_
 refine es ?_
 refine wp_reg 8 [[]] [?b15_0] mixed hr ?t15 ?o15 ?_
 case o15 =>
  apply oc0; intro A W hx hf
  exact ok_assignc
  exact onn
 case t15 => exact inferInstance
 clear hr; intro a16 w16 x hr hd hs
 clear s6
 have s2 := fa ?b15_0 a16 w16 2 (hd 0 2 rfl)
 replace e_w := e_w.trans x; clear hd hs x
 refine et ?_
 refine wp_ret ?_
 refine ret_tmp Try.results84 hr e_w ?_
 exact Is.int s2 (by simp [portPlace] at *; simp [*])

theorem c_parts {x0 x1 x2 x3 : Value} {w : World} {Sa Da : Adr} {q : Int} {l : List UInt8} {W0 : World} {B : Nat} (h0 : (Is (AdrV Sa)) x0 w) (h1 : (Is (AdrV Da)) x1 w) (h2 : (Is (.int .i64 q)) x2 w) (h3 : (BsW W0 l) x3 w) (hA : Sa.b.length = 16) (hD : Da.b.length = 16) (ht9 : 0 ≤ (portRead q l).1.total ∧ (portRead q l).1.total ≤ (l.length : Int)) (hB : B ≤ w.heap.size) :
    Calls Try.prog 85 #[x0, x1, x2, x3] w (Ret (Tup2 (OwnB B 5 (pseudoL Sa Da q (portRead q l).1.total)) (AtW W0 (Bs (l.take (portRead q l).1.total.toNat)))) w) := by
 have hlen := Bs.len_le h3.1
 refine enter Try.func85 rfl Try.ntmps85 (k := 4) rfl (by decide) (fun a0 hr hargs => ?_)
 have s0 := sarg h0 (hargs 0 (by decide))
 have s1 := sarg h1 (hargs 1 (by decide))
 have s2 := sarg h2 (hargs 2 (by decide))
 have s3 := sarg h3 (hargs 3 (by decide))
 clear hargs
 refine sq ?_
 refine wp_reg 28 [[(0, none)], [(1, none)], [], []] [?b1_0, ?b1_1, ?b1_2, ?b1_3] mixed hr ?t1 ?o1 ?_
 case o1 =>
  apply oc0; intro A W hx hf
  exact ok_boxS [[.bool Sa.six], Sa.b.map byteV] [1, 16] (Is.conv (o1 s0 hx (r0 hf)) (adr_seg Sa).symm) (by simp [*]) hx.size
  apply oc0; intro A W hx hf
  exact ok_boxS [[.bool Da.six], Da.b.map byteV] [1, 16] (Is.conv (o1 s1 hx (r0 hf)) (adr_seg Da).symm) (by simp [*]) hx.size
  apply oc0; intro A W hx hf
  exact ok_assignv (Bs []) (fun _ => bs_nil)
  apply oc0; intro A W hx hf
  exact ok_assignv (Bs []) (fun _ => bs_nil)
  exact onn
 case t1 => exact inferInstance
 clear hr; intro a2 w2 x hr hd hs
 revert s3; revert s2; refine kp2 hs rfl ?_; intro s2 s3
 clear s0 s1
 have s4 := fa ?b1_0 a2 w2 4 (hd 0 4 rfl)
 have s5 := fa ?b1_1 a2 w2 5 (hd 1 5 rfl)
 obtain ⟨g2_4, q2_4⟩ := PxN.at s4; clear s4; have n2_4 := PxS.lt q2_4
 have s4 := q2_4; clear q2_4
 obtain ⟨g2_5, q2_5⟩ := PxN.at s5; clear s5; have n2_5 := PxS.lt q2_5
 have s5 := q2_5; clear q2_5
 have e_w := x; clear hd hs x
 refine es ?_
 refine wp_reg_pre (l := [_, _, _, _, _, _, _]) (rest := [_, _]) 28 [[(2, none)], [(3, none)], [(13, some 0), (14, some 1)], [(15, some 2)], [(12, some 3)], [(12, some 3)], []] [?b3_0, ?b3_1, ?b3_2, ?b3_2, ?b3_4, ?b3_5, ?b3_6] hr ?t3 ?o3 ?_
 case o3 =>
  apply oc0; intro A W hx hf
  exact ok_movE (a0 := a2) (r0 hf)
  apply oc0; intro A W hx hf
  exact ok_movE (a0 := a2) (r0 hf)
  apply oc0; intro A W hx hf
  exact ok_call2 body26 (c_pRead (p2 s2 e_w hx (q0 ?b3_0 A W 13 hf)) (BsW.now (p2 s3 e_w hx (q1 ?b3_1 A W 14 hf))))
  apply oc0; intro A W hx hf
  exact ok_move (q0 ?b3_2 A W 15 hf)
  apply oc0; intro A W hx hf
  exact ok_ext0 (q0 ?b3_2 A W 12 hf)
  apply oc0; intro A W hx hf
  exact ok_ext1 (q0 ?b3_2 A W 12 hf)
  apply oc0; intro A W hx hf
  exact ok_allocS (portS port0) [1, 1, 1, 1, 1] zerov65 (by rfl) (by rfl) hx.size
  exact onn
 case t3 => exact inferInstance
 clear hr; intro a4 w4 x hr hd hs
 have z_w_w2 := e_w.size
 have l4_4 := PxS.lt s4
 have l4_5 := PxS.lt s5
 revert s5; revert s4; revert s3; revert s2; refine kp4 hs rfl ?_; intro s2 s3 s4 s5
 have s16 := fa ?b3_4 a4 w4 16 (hd 4 16 rfl)
 have s17 := fa ?b3_5 a4 w4 17 (hd 5 17 rfl)
 have s10 := fa ?b3_6 a4 w4 10 (hd 6 10 rfl)
 obtain ⟨g4_10, q4_10⟩ := PxN.at s10; clear s10; have n4_10 := PxS.lt q4_10
 replace q4_10 := PxS.mono q4_10 e_w.size
 have s10 := q4_10; clear q4_10
 replace e_w := e_w.trans x
 have e_w2 := x; clear hd hs x
 have z5 := PxS.lt s10
 have l5 := (show (g4_10 = 0 ∨ w.heap.size < g4_10) ∧ True from ⟨by omega, trivial⟩)
 have l5_4 := PxS.lt (later e_w2 s4)
 have l5_5 := PxS.lt (later e_w2 s5)
 refine wl_storeSm (portS (portRead q l).1) hr size65 s10 s16 (by rfl) (by exact port_one) rfl ?_; clear hr; intro a5 w5 hc hu hr hs
 have hb : Below w.heap.size w4 w5 := hc.below e_w.size l5.1
 revert s10; revert s17; revert s5; revert s4; revert s3; revert s2; refine kp6 hs rfl ?_; intro s2 s3 s4 s5 s17 s10
 clear s16
 replace s4 := PxS.other (later e_w2 s4) hc (by omega)
 replace s5 := PxS.other (later e_w2 s5) hc (by omega)
 replace s10 := hu _ _ _ s10
 try simp only [List.set_cons_zero, List.set_cons_succ] at s10
 replace e_w := e_w.below (Nat.le_refl _) hb
 clear e_w2
 replace s17 := anyw (w2 := w5) s17
 clear hu hs hc hb
 refine wl_op hr (ok_assign s17) inferInstance ?_; clear hr; intro a6 w6 x hr hd hs
 revert s10; revert s5; revert s4; revert s3; revert s2; refine kp5 hs rfl ?_; intro s2 s3 s4 s5 s10
 clear s17
 replace e_w := e_w.trans x
 have e_w5 := x; clear hd hs x
 refine wpList_nil ?_
 refine es ?_
 refine wp_reg 28 [[(4, none)], [(5, none)], [(2, none)], [(10, none)], [(21, some 3)], [(18, some 0), (19, some 1), (20, some 2), (22, some 4)], [(3, none)], [(10, none)], [(25, some 7)], [(24, some 6), (26, some 8)], [(23, some 5)], [(27, some 9)]] [?b7_0, ?b7_1, ?b7_2, ?b7_3, ?b7_4, ?b7_5, ?b7_6, ?b7_7, ?b7_8, ?b7_9, ?b7_5, ?b7_9] mixed hr ?t7 ?o7 ?_
 case o7 =>
  apply oc0; intro A W hx hf
  exact ok_loadAggS 2 tu26 rfl size26 (o2 s4 e_w5 hx (r0 hf)) rfl
  apply oc0; intro A W hx hf
  exact ok_loadAggS 2 tu26 rfl size26 (o2 s5 e_w5 hx (r0 hf)) rfl
  apply oc0; intro A W hx hf
  exact ok_movE (a0 := a6) (r0 hf)
  apply oc0; intro A W hx hf
  exact ok_fieldS 4 tu65 (k := 4) rfl size3 rfl (o2 s10 e_w5 hx (r0 hf)) rfl
  apply oc0; intro A W hx hf
  exact ok_loadS tu3 rfl (q0 ?b7_3 A W 21 hf) rfl
  apply oc0; intro A W hx hf
  exact ok_call4 body90 (c_Pseudo (Is.conv (q0 ?b7_0 A W 18 hf) (adr_seg Sa)) (Is.conv (q1 ?b7_1 A W 19 hf) (adr_seg Da)) (p2 s2 e_w hx (q2 ?b7_2 A W 20 hf)) (q3 ?b7_4 A W 22 hf) (by exact hA) (by exact hD) hx.size)
  apply oc0; intro A W hx hf
  exact ok_movE (a0 := a6) (r0 hf)
  apply oc0; intro A W hx hf
  exact ok_fieldS 4 tu65 (k := 4) rfl size3 rfl (o2 s10 e_w5 hx (r0 hf)) rfl
  apply oc0; intro A W hx hf
  exact ok_loadS tu3 rfl (q0 ?b7_7 A W 25 hf) rfl
  apply oc0; intro A W hx hf
  exact okW_slice_hi ((portRead q l).1.total.toNat) tu22 size5 (BsW.old (p2 s3 e_w hx (q0 ?b7_6 A W 24 hf))) (Is.int (q1 ?b7_8 A W 26 hf) (by show (portRead q l).1.total = _; omega)) (by omega)
  apply oc0; intro A W hx hf
  exact ok_assign (q0 ?b7_5 A W 23 hf)
  apply oc0; intro A W hx hf
  exact ok_assign (q0 ?b7_9 A W 27 hf)
  exact onn
 case t7 => exact inferInstance
 clear hr; intro a8 w8 x hr hd hs
 have z_w_w6 := e_w.size
 have z_w5_w6 := e_w5.size
 have l8_4 := PxS.lt (later e_w5 s4)
 have l8_5 := PxS.lt (later e_w5 s5)
 have l8_10 := PxS.lt (later e_w5 s10)
 clear s2 s3 s4 s5 s10
 have s8 := fa ?b7_5 a8 w8 8 (hd 10 8 rfl)
 have s9 := fa ?b7_9 a8 w8 9 (hd 11 9 rfl)
 obtain ⟨g8_8, q8_8⟩ := OwnB.at s8; clear s8; have n8_8 := OwnBA.lt q8_8
 replace q8_8 := OwnBA.mono q8_8 e_w.size
 have s8 := q8_8; clear q8_8
 replace e_w := e_w.trans x
 clear e_w5; clear hd hs x
 refine et ?_
 refine wp_ret ?_
 refine ret_tmp2 Try.results85 hr e_w ?_
 exact ⟨_, _, rfl, OwnB.mono s8.own hB, s9⟩

def D_c_pFill_0 : List Tmp := [11]
theorem c_pFill {x0 x1 x2 x3 : Value} {w : World} {Sa Da : Adr} {q : Int} {l : List UInt8} {B : Nat} (h0 : (Is (AdrV Sa)) x0 w) (h1 : (Is (AdrV Da)) x1 w) (h2 : (Is (.int .i64 q)) x2 w) (h3 : (Bs l) x3 w) (hA : Sa.b.length = 16) (hD : Da.b.length = 16) (hok : (portRead q l).2 = 0) (hn9 : l.length ≤ 65535) (hB : B ≤ w.heap.size) :
    Calls Try.prog 65 #[x0, x1, x2, x3] w (Ret (OwnB B 5 (pFill Sa Da q l)) w) := by
 have hlen := Bs.len_le h3
 obtain ⟨y1, y2, y3, y4⟩ := portRead_ok hok
 obtain ⟨v1, v2, v3⟩ := atN_le hok
 have z1 := read_put2 (a := [0, 0]) hok rfl
 have z2 := put2At_len (l := l) (k := atN q) (a := [0, 0]) v1 rfl
 have hsb := pSum_bd Sa Da q (put2At l (atN q) [0, 0])
 have hfb := pFix_bd (q := q) hsb
 refine enter Try.func65 rfl Try.ntmps65 (k := 4) rfl (by decide) (fun a0 hr hargs => ?_)
 have s0 := sarg h0 (hargs 0 (by decide))
 have s1 := sarg h1 (hargs 1 (by decide))
 have s2 := sarg h2 (hargs 2 (by decide))
 have s3 := sarg h3 (hargs 3 (by decide))
 clear hargs
 refine sq ?_
 refine wp_reg 44 [[(0, none)], [(1, none)], []] [?b1_0, ?b1_1, ?b1_2] mixed hr ?t1 ?o1 ?_
 case o1 =>
  apply oc0; intro A W hx hf
  exact ok_boxS [[.bool Sa.six], Sa.b.map byteV] [1, 16] (Is.conv (o1 s0 hx (r0 hf)) (adr_seg Sa).symm) (by simp [*]) hx.size
  apply oc0; intro A W hx hf
  exact ok_boxS [[.bool Da.six], Da.b.map byteV] [1, 16] (Is.conv (o1 s1 hx (r0 hf)) (adr_seg Da).symm) (by simp [*]) hx.size
  apply oc0; intro A W hx hf
  exact ok_assignv (Bs []) (fun _ => bs_nil)
  exact onn
 case t1 => exact inferInstance
 clear hr; intro a2 w2 x hr hd hs
 revert s3; revert s2; refine kp2 hs rfl ?_; intro s2 s3
 clear s0 s1
 have s4 := fa ?b1_0 a2 w2 4 (hd 0 4 rfl)
 have s5 := fa ?b1_1 a2 w2 5 (hd 1 5 rfl)
 obtain ⟨g2_4, q2_4⟩ := PxN.at s4; clear s4; have n2_4 := PxS.lt q2_4
 have s4 := q2_4; clear q2_4
 obtain ⟨g2_5, q2_5⟩ := PxN.at s5; clear s5; have n2_5 := PxS.lt q2_5
 have s5 := q2_5; clear q2_5
 have e_w := x; clear hd hs x
 refine es ?_
 refine wp_reg 44 [[(3, none)], [(12, some 0)], [(13, some 1)]] [?b3_0, ?b3_1, ?b3_1] mixed hr ?t3 ?o3 ?_
 case o3 =>
  apply oc0; intro A W hx hf
  exact ok_movE (a0 := a2) (r0 hf)
  apply oc0; intro A W hx hf
  exact ok_call1 body83 (c_Clone (p2 s3 e_w hx (q0 ?b3_0 A W 12 hf)) (by omega) hx.size)
  apply oc0; intro A W hx hf
  exact ok_assign (q0 ?b3_1 A W 13 hf)
  exact onn
 case t3 => exact inferInstance
 clear hr; intro a4 w4 x hr hd hs
 have z_w_w2 := e_w.size
 have l4_4 := PxS.lt s4
 have l4_5 := PxS.lt s5
 revert s5; revert s4; revert s2; refine kp3 hs rfl ?_; intro s2 s4 s5
 clear s3
 have s9 := fa ?b3_1 a4 w4 9 (hd 2 9 rfl)
 obtain ⟨g4_9, q4_9⟩ := OwnB.at s9; clear s9; have n4_9 := OwnBA.lt q4_9
 replace q4_9 := OwnBA.mono q4_9 e_w.size
 have s9 := q4_9; clear q4_9
 replace e_w := e_w.trans x
 have e_w2 := x; clear hd hs x
 refine es ?_
 refine wp_reg 44 [[(2, none)], [(14, some 0)], [(15, some 1)]] [?b5_0, ?b5_1, ?b5_1] mixed hr ?t5 ?o5 ?_
 case o5 =>
  apply oc0; intro A W hx hf
  exact ok_movE (a0 := a4) (r0 hf)
  apply oc0; intro A W hx hf
  exact ok_call1 body84 (c_pPlace (p2 s2 e_w hx (q0 ?b5_0 A W 14 hf)))
  apply oc0; intro A W hx hf
  exact ok_assign (q0 ?b5_1 A W 15 hf)
  exact onn
 case t5 => exact inferInstance
 clear hr; intro a6 w6 x hr hd hs
 revert s9; revert s5; revert s4; revert s2; refine kp4 hs rfl ?_; intro s2 s4 s5 s9
 have s10 := fa ?b5_1 a6 w6 10 (hd 2 10 rfl)
 replace e_w := e_w.trans x
 replace e_w2 := e_w2.trans x
 have e_w4 := x; clear hd hs x
 refine es ?_
 refine wp_reg_pre (l := [_, _, _, _]) (rest := [_]) 44 [[(9, none)], [(10, none)], [(16, some 0), (17, some 1)], []] [?b7_0, ?b7_1, ?b7_2, ?b7_3] hr ?t7 ?o7 ?_
 case o7 =>
  apply oc0; intro A W hx hf
  exact ok_movE (a0 := a6) (r0 hf)
  apply oc0; intro A W hx hf
  exact ok_movE (a0 := a6) (r0 hf)
  apply oc0; intro A W hx hf
  exact ok_subA (atN q) tu22 size5 (p2 s9 e_w4 hx (q0 ?b7_0 A W 16 hf)) (Is.int (p1 s10 hx (q1 ?b7_1 A W 17 hf)) (by exact v2)) (by omega)
  apply oc0; intro A W hx hf
  exact ok_buildBs [(.const (.int .u8 0)), (.const (.int .u8 0))] [_, _] tu22 size5 zero5 rfl rfl (by decide) (PartsOk.cons (show ByteIs 0 _ _ from rfl) (PartsOk.cons (show ByteIs 0 _ _ from rfl) (PartsOk.nil)))
  exact onn
 case t7 => exact inferInstance
 clear hr; intro a8 w8 x hr hd hs
 revert s10; revert s9; revert s5; revert s4; revert s2; refine kp5 hs rfl ?_; intro s2 s4 s5 s9 s10
 have s18 := fa ?b7_2 a8 w8 18 (hd 2 18 rfl)
 have s19 := fa ?b7_3 a8 w8 19 (hd 3 19 rfl)
 replace e_w := e_w.trans x
 replace e_w2 := e_w2.trans x
 replace e_w4 := e_w4.trans x
 have e_w6 := x; clear hd hs x
 have z9 := SubA.lt s18
 have l9 := (show (g4_9 = 0 ∨ w.heap.size < g4_9) ∧ True from ⟨by omega, trivial⟩)
 have l9_4 := PxS.lt (later e_w2 s4)
 have l9_5 := PxS.lt (later e_w2 s5)
 refine wl_copyA hr tu22 size5 s18 s19 ?_; clear hr; intro a9 w9 hc hu hr hs
 have hb : Below w.heap.size w8 w9 := hc.below e_w.size l9.1
 revert s10; revert s9; revert s5; revert s4; revert s2; refine kp5 hs rfl ?_; intro s2 s4 s5 s9 s10
 clear s18 s19
 replace s4 := PxS.other (later e_w2 s4) hc (by omega)
 replace s5 := PxS.other (later e_w2 s5) hc (by omega)
 replace s9 := hu _ _ _ (later e_w4 s9)
 replace e_w := e_w.below (Nat.le_refl _) hb
 clear e_w2
 clear e_w4
 clear e_w6
 replace s10 := anyw (w2 := w9) s10
 clear hu hs hc hb
 refine wpList_nil ?_
 replace s9 := OwnBA.cast s9 (show _ = put2At l (atN q) [0, 0] from put2At_cpy v1 rfl)
 refine es ?_
 refine wp_reg 44 [[(4, none)], [(5, none)], [(2, none)], [(9, none)], [(21, some 0), (22, some 1), (23, some 2), (24, some 3)], [(25, some 4)], [(25, some 4)], [(26, some 5), (27, some 6)], [(28, some 7)], [(29, some 8)]] [?b10_0, ?b10_1, ?b10_2, ?b10_3, ?b10_4, ?b10_5, ?b10_6, ?b10_7, ?b10_8, ?b10_8] mixed hr ?t10 ?o10 ?_
 case o10 =>
  apply oc0; intro A W hx hf
  exact ok_loadAggS 2 tu26 rfl size26 (o1 s4 hx (r0 hf)) rfl
  apply oc0; intro A W hx hf
  exact ok_loadAggS 2 tu26 rfl size26 (o1 s5 hx (r0 hf)) rfl
  apply oc0; intro A W hx hf
  exact ok_movE (a0 := a9) (r0 hf)
  apply oc0; intro A W hx hf
  exact ok_movE (a0 := a9) (r0 hf)
  apply oc0; intro A W hx hf
  exact ok_call4 body85 (c_parts (Is.conv (q0 ?b10_0 A W 21 hf) (adr_seg Sa)) (Is.conv (q1 ?b10_1 A W 22 hf) (adr_seg Da)) (p2 s2 e_w hx (q2 ?b10_2 A W 23 hf)) ⟨(OwnBA.bs (p1 s9 hx (q3 ?b10_3 A W 24 hf))), (sarg (OwnBA.bs s9) (show _ = _ from (q3 ?b10_3 A W 24 hf)))⟩ (by exact hA) (by exact hD) (by rw [z1, z2]; exact ⟨by omega, by omega⟩) hx.size)
  apply oc0; intro A W hx hf
  exact ok_ext0 (q0 ?b10_4 A W 25 hf)
  apply oc0; intro A W hx hf
  exact ok_ext1 (q0 ?b10_4 A W 25 hf)
  apply oc0; intro A W hx hf
  exact ok_buildBss [(.tmp 26), (.tmp 27)] [_, _] tu107 size22 zero22 rfl rfl (by decide) (PartsOk.cons (OwnB.bs (q0 ?b10_5 A W 26 hf)) (PartsOk.cons (AtW.now (q1 ?b10_6 A W 27 hf) hx) (PartsOk.nil)))
  apply oc0; intro A W hx hf
  exact ok_call1 body68 (c_Sum (q0 ?b10_7 A W 28 hf))
  apply oc0; intro A W hx hf
  exact ok_assign (q0 ?b10_8 A W 29 hf)
  exact onn
 case t10 => exact inferInstance
 clear hr; intro a11 w11 x hr hd hs
 have z_w_w9 := e_w.size
 revert s9; revert s10; revert s2; refine kp3 hs rfl ?_; intro s2 s10 s9
 clear s4 s5
 have s11 := fa ?b10_8 a11 w11 11 (hd 9 11 rfl)
 replace e_w := e_w.trans x
 have e_w9 := x; clear hd hs x
 replace s11 := Is.int s11 (show _ = pSum Sa Da q (put2At l (atN q) [0, 0]) from by unfold pSum; simp)
 refine es ?_
 refine sq ?_
 refine wp_reg 44 [[(11, none)], [(30, some 0)], [(31, some 1)], [(2, none), (32, some 2)], [(33, some 3), (32, some 2)], [(32, some 2), (34, some 4)]] [?b12_0, ?b12_1, ?b12_1, ?b12_3, ?b12_4, ?b12_5] mixed hr ?t12 ?o12 ?_
 case o12 =>
  apply oc0; intro A W hx hf
  exact ok_movE (a0 := a11) (r0 hf)
  apply oc0; intro A W hx hf
  exact ok_eql (p1 s11 hx (q0 ?b12_0 A W 30 hf)) (ec A (.int .u16 0))
  apply oc0; intro A W hx hf
  exact ok_move (q0 ?b12_1 A W 31 hf)
  refine ocg 32 ?_ (fun A W hx hf => ?_) ?_
  rfl
  exact gd_t (q1 ?b12_1 A W 32 hf) (fun hc => ok_movE (a0 := a11) (r0 hf))
  refine ocg 32 ?_ (fun A W hx hf => ?_) ?_
  rfl
  exact gd_t (q1 ?b12_1 A W 32 hf) (fun hc => ok_eql (p2 s2 e_w hx (G.get (q0 ?b12_3 A W 33 hf) hc)) (ec A (.int .i64 17)))
  apply oc0; intro A W hx hf
  exact ok_and (q0 ?b12_1 A W 32 hf) (q1 ?b12_4 A W 34 hf)
  exact onn
 case t12 => exact inferInstance
 clear hr; intro a13 w13 x hr hd hs
 revert s11; revert s9; revert s10; refine kp3 hs rfl ?_; intro s10 s9 s11
 clear s2
 have s35 := fa ?b12_5 a13 w13 35 (hd 5 35 rfl)
 replace e_w := e_w.trans x
 replace e_w9 := e_w9.trans x
 have e_w11 := x; clear hd hs x
 refine et ?_
 refine wp_cut (fun A W => Fr 44 A ∧ Same D_c_pFill_0 a13 A ∧ Ext w W ∧ (Is (.int .u16 (pFix q (pSum Sa Da q (put2At l (atN q) [0, 0]))))) (A.eval (.tmp 11)) W ∧ (OwnBA g4_9 w.heap.size 5 (put2At l (atN q) [0, 0])) (A.eval (.tmp 9)) W) ?cut14 ?_
 case cut14 =>
  have m14 : Same D_c_pFill_0 a13 a13 := Same.rfl
  refine wp_cond_split (show _ = _ from s35) (fun hf9 => ?_) (fun hf9 => ?_)
  ·
   skip
   refine wp_reg 44 [[]] [?b16_0] mixed hr ?t16 ?o16 ?_
   case o16 =>
    apply oc0; intro A W hx hf
    exact ok_assignc
    exact onn
   case t16 => exact inferInstance
   clear hr; intro a17 w17 x hr hd hs
   revert s9; revert s10; refine kp2 hs rfl ?_; intro s10 s9
   clear s11 s35
   have s11 := fa ?b16_0 a17 w17 11 (hd 0 11 rfl)
   replace e_w := e_w.trans x
   replace e_w9 := e_w9.trans x
   clear e_w11
   replace m14 := m14.tr hs rfl; clear hd hs x
   refine et ?_
   refine ⟨hr, m14, e_w, ?_, ?_⟩
   · first | exact Is.int s11 (fix_t hf9).symm | exact Is.int s11 (fix_f hf9).symm
   · exact (later e_w9 s9)
  skip
  refine wp_skip ?_
  refine et ?_
  refine ⟨hr, m14, e_w, ?_, ?_⟩
  · first | exact Is.int (later e_w11 s11) (fix_t hf9).symm | exact Is.int (later e_w11 s11) (fix_f hf9).symm
  · exact (later e_w9 s9)
 intro a14 w14 hI
 clear e_w
 clear e_w9
 clear e_w11
 clear hr; obtain ⟨hr, hs, e_w, u11, u9⟩ := hI
 revert s10; refine kp1 hs rfl ?_; intro s10
 clear s9 s11 s35
 have s11 := u11; clear u11
 have s9 := u9; clear u9
 replace s10 := anyw (w2 := w14) s10
 clear hs
 refine sq ?_
 refine wp_any_start mixed (fun w18 x => ?_)
 show wpAny _ _ _ _ 7 _ _ _
 replace e_w := e_w.trans x
 have e_w14 := x
 clear x
 refine wp_sel (l := [_, _, _, _, _, _, _]) 44 _ [false, false, false, false, false, false, true] [6] [[(9, none)], [(10, none)], [(36, some 0), (37, some 1)], [(11, none)], [(39, some 3)], [(40, some 4)], []] [?b19_0, ?b19_1, ?b19_2, ?b19_3, ?b19_4, ?b19_5, VP.top] (by kernel_rfl) rfl (by kernel_rfl) hr ?t19 ?o19 ?_
 case o19 =>
  apply lc0; intro A W hx hf
  exact ok_movE (a0 := a14) (r0 hf)
  apply lc0; intro A W hx hf
  exact ok_movE (a0 := a14) (r0 hf)
  apply lc0; intro A W hx hf
  exact ok_subA (atN q) tu22 size5 (p2 s9 e_w14 hx (q0 ?b19_0 A W 36 hf)) (Is.int (p2 s10 e_w14 hx (q1 ?b19_1 A W 37 hf)) (by exact v2)) (by omega)
  apply lc0; intro A W hx hf
  exact ok_movE (a0 := a14) (r0 hf)
  apply lc0; intro A W hx hf
  exact ok_convI tu46 tu105 (by exact IntWalk.u64_in _ (by omega)) (p2 s11 e_w14 hx (q0 ?b19_3 A W 39 hf))
  apply lc0; intro A W hx hf
  exact ok_call3 body59 (c_Put (q0 ?b19_4 A W 40 hf) (show Is (.int .i64 2) (A.eval (.const (.int .i64 2))) _ from rfl) (show Is (.bool true) (A.eval (.const (.bool true))) _ from rfl) (by omega) hx.size)
  refine lcs ?_
  exact lcn
 case t19 => exact inferInstance
 clear hr; intro a20 w20 x hr hd hs
 have z_w_w18 := e_w.size
 have z_w14_w18 := e_w14.size
 have l20_9 := OwnBA.lt (later e_w14 s9)
 have u36 := mv s9 (fa ?b19_0 a20 w20 36 (hd 0 36 rfl rfl))
 have u37 := mv s10 (fa ?b19_1 a20 w20 37 (hd 1 37 rfl rfl))
 have u39 := mv s11 (fa ?b19_3 a20 w20 39 (hd 3 39 rfl rfl))
 revert s10; revert s9; revert s11; refine kp3 hs rfl ?_; intro s11 s9 s10
 have s36 := u36; clear u36
 have s37 := u37; clear u37
 have s39 := u39; clear u39
 have s38 := fa ?b19_2 a20 w20 38 (hd 2 38 rfl rfl)
 have s40 := fa ?b19_4 a20 w20 40 (hd 4 40 rfl rfl)
 have s41 := fa ?b19_5 a20 w20 41 (hd 5 41 rfl rfl)
 obtain ⟨g20_41, q20_41⟩ := OwnB.at s41; clear s41; have n20_41 := OwnBA.lt q20_41
 replace q20_41 := OwnBA.mono q20_41 e_w.size
 have s41 := q20_41; clear q20_41
 replace e_w := e_w.trans x
 replace e_w14 := e_w14.trans x; clear hd hs x
 show wpList _ _ _ [_] _ _
 have z21 := SubA.lt s38
 have l21 := (show (g4_9 = 0 ∨ w.heap.size < g4_9) ∧ True from ⟨by omega, trivial⟩)
 refine wl_copyA hr tu22 size5 s38 (OwnBA.bs s41) ?_; clear hr; intro a21 w21 hc hu hr hs
 have hb : Below w.heap.size w20 w21 := hc.below e_w.size l21.1
 revert s9; refine kp1 hs rfl ?_; intro s9
 clear s11 s10 s36 s37 s39 s38 s40 s41
 replace s9 := hu _ _ _ (later e_w14 s9)
 replace e_w := e_w.below (Nat.le_refl _) hb
 clear e_w14
 clear hu hs hc hb
 refine wpList_nil ?_
 refine es ?_
 refine wp_reg 44 [[(9, none)], [(43, some 0)]] [?b22_0, ?b22_0] mixed hr ?t22 ?o22 ?_
 case o22 =>
  apply oc0; intro A W hx hf
  exact ok_movE (a0 := a21) (r0 hf)
  apply oc0; intro A W hx hf
  exact ok_assign (q0 ?b22_0 A W 43 hf)
  exact onn
 case t22 => exact inferInstance
 clear hr; intro a23 w23 x hr hd hs
 have u8 := mv s9 (fa ?b22_0 a23 w23 8 (hd 1 8 rfl))
 clear s9
 have s8 := u8; clear u8
 replace e_w := e_w.trans x
 have e_w21 := x; clear hd hs x
 refine et ?_
 refine wp_ret ?_
 refine ret_tmp Try.results65 hr e_w ?_
 exact OwnB.cast (OwnB.mono (later e_w21 s8).own hB) (by rw [put2At_cpy (by omega) (put2_len _), put2At_put v1 rfl (put2_len _)]; rfl)

end Go.Proofs.Ytpjpfmnnefgnbaa
