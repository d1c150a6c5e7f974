import Derived.Test.YtlmdboaghojgiaaC01
import Derived.Test.YtlmdboaghojgiaaC06
namespace Go.Proofs.Ytlmdboaghojgiaa
open Go.RowKit
set_option linter.unusedVariables false
set_option linter.unusedSimpArgs false
set_option maxRecDepth 4000
def Qah : List Tmp := [4, 5, 8, 9, 10, 11, 12, 13, 14, 15, 16, 17, 18]
theorem Qev {x0 x1 : Value} {w : World} {l : List UInt8} {q : FuncId} {pr : UInt8 → Bool} (h0 : (Bs l) x0 w) (h1 : (Is (FnV q)) x1 w) (bd9 : Body Try.prog q) (cl9 : ∀ (c : UInt8) x w, ByteIs c x w → Calls Try.prog q #[x] w (Ret (Is (.bool (pr c))) w)) :
    Calls Try.prog 74 #[x0, x1] w (Ret (Is (.int .i64 (ixf pr l))) w) := by
 have hlen := Bs.len_le h0
 refine enter Try.func74 rfl Try.ntmps74 (k := 2) rfl (by decide) (fun a0 hr hargs => ?_)
 have s0 := sarg h0 (hargs 0 (by decide))
 have s1 := sarg h1 (hargs 1 (by decide))
 clear hargs
 refine sq ?_
 refine Q04 19 [[]] [?b1_0] Q08 hr ?t1 ?o1 ?_
 case o1 =>
  apply oc0; intro A W hx hf
  exact Q05
  exact onn
 case t1 => exact inferInstance
 clear hr; intro a2 w2 x hr hd hs
 revert s1; revert s0; refine kp2 hs rfl ?_; intro s0 s1
 have e_w := x; clear hd hs x
 refine es ?_
 refine sq ?_
 refine Q04 19 [[(0, none)], [(6, some 0)], []] [?b3_0, ?b3_1, ?b3_2] Q08 hr ?t3 ?o3 ?_
 case o3 =>
  apply oc0; intro A W hx hf
  exact Q01 (a0 := a2) (r0 hf)
  apply oc0; intro A W hx hf
  exact Q0v tu22 (p2 s0 e_w hx (q0 ?b3_0 A W 6 hf))
  apply oc0; intro A W hx hf
  exact Q7h
  exact onn
 case t3 => exact inferInstance
 clear hr; intro a4 w4 x hr hd hs
 revert s1; revert s0; refine kp2 hs rfl ?_; intro s0 s1
 have s7 := fa ?b3_1 a4 w4 7 (hd 1 7 rfl)
 have s8 := fa ?b3_2 a4 w4 8 (hd 2 8 rfl)
 replace e_w := e_w.trans x; clear hd hs x
 refine et ?_
 refine wp_block ?_
 refine Q14 (fun n A W => ∃ (i : Nat), n = l.length - i ∧ Fr 19 A ∧ Same Qah a4 A ∧ Ext w W ∧ Ext w4 W ∧ (i ≤ l.length) ∧ ((l.take i).any pr = false) ∧ (Is (.int .i64 (i : Int))) (A.eval (.tmp 8)) W) ?start5 ?_
 case start5 =>
  refine ⟨_, 0, rfl, hr, Same.rfl, e_w, (Ext.refl _), (by omega), (by simp), ?_⟩
  · exact s8
 intro n5 a5 w5 hI
 clear e_w
 clear hr; obtain ⟨i, hn5, hr, hs, e_w, e_w4, hi, hp, u8⟩ := hI
 revert s7; revert s1; revert s0; refine kp3 hs rfl ?_; intro s0 s1 s7
 clear s8
 have s8 := u8; clear u8
 have m5 := hs; clear hs
 refine sq ?_
 refine Q04 19 [[(8, none), (7, none)]] [?b6_0] Q08 hr ?t6 ?o6 ?_
 case o6 =>
  apply oc0; intro A W hx hf
  exact Q1b (o1 s8 hx (r0 hf)) (o2 s7 e_w4 hx (r1 hf))
  exact onn
 case t6 => exact inferInstance
 clear hr; intro a7 w7 x hr hd hs
 revert s8; revert s7; revert s1; revert s0; refine kp4 hs rfl ?_; intro s0 s1 s7 s8
 have s9 := fa ?b6_0 a7 w7 9 (hd 0 9 rfl)
 replace e_w := e_w.trans x
 replace e_w4 := e_w4.trans x
 have e_w5 := x
 replace m5 := m5.tr hs rfl; clear hd hs x
 refine es ?_
 refine wp_cond_split (show _ = _ from s9) (fun hlt => ?_) (fun hlt => ?_)
 ·
  have hlt : i < l.length := by simp at hlt; omega
  refine wp_skip ?_
  refine es ?_
  refine wp_block ?_
  refine sq ?_
  refine Q04 19 [[(8, none)], [(10, some 0)]] [?b9_0, ?b9_0] Q08 hr ?t9 ?o9 ?_
  case o9 =>
   apply oc0; intro A W hx hf
   exact Q01 (a0 := a7) (r0 hf)
   apply oc0; intro A W hx hf
   exact Q03 (q0 ?b9_0 A W 10 hf)
   exact onn
  case t9 => exact inferInstance
  clear hr; intro a10 w10 x hr hd hs
  have u5 := mv s8 (fa ?b9_0 a10 w10 5 (hd 1 5 rfl))
  revert s8; revert s7; revert s1; revert s0; refine kp4 hs rfl ?_; intro s0 s1 s7 s8
  clear s9
  have s5 := u5; clear u5
  replace e_w := e_w.trans x
  replace e_w4 := e_w4.trans x
  replace e_w5 := e_w5.trans x
  replace m5 := m5.tr hs rfl; clear hd hs x
  refine es ?_
  refine Q04 19 [[(1, none)], [(0, none)], [(5, none)], [(12, some 1), (13, some 2)], [(14, some 3)], [(11, some 0), (15, some 4)]] [?b11_0, ?b11_1, ?b11_2, ?b11_3, ?b11_4, ?b11_5] Q08 hr ?t11 ?o11 ?_
  case o11 =>
   apply oc0; intro A W hx hf
   exact Q01 (a0 := a10) (r0 hf)
   apply oc0; intro A W hx hf
   exact Q01 (a0 := a10) (r0 hf)
   apply oc0; intro A W hx hf
   exact Q01 (a0 := a10) (r0 hf)
   apply oc0; intro A W hx hf
   exact Q12 (_) tu22 Q0s (p2 s0 e_w hx (q0 ?b11_1 A W 12 hf)) (p2 s5 e_w5 hx (q1 ?b11_2 A W 13 hf)) (by first | omega | decide | (simp; done) | (simp; omega))
   apply oc0; intro A W hx hf
   exact Q1d tu5 rfl (q0 ?b11_3 A W 14 hf)
   apply oc0; intro A W hx hf
   exact Qia (p2 s1 e_w hx (q0 ?b11_0 A W 11 hf)) bd9 (cl9 _ _ _ (q1 ?b11_4 A W 15 hf))
   exact onn
  case t11 => exact inferInstance
  clear hr; intro a12 w12 x hr hd hs
  revert s5; revert s8; revert s7; revert s1; revert s0; refine kp5 hs rfl ?_; intro s0 s1 s7 s8 s5
  have s16 := fa ?b11_5 a12 w12 16 (hd 5 16 rfl)
  replace e_w := e_w.trans x
  replace e_w4 := e_w4.trans x
  replace e_w5 := e_w5.trans x
  replace m5 := m5.tr hs rfl; clear hd hs x
  refine et ?_
  refine wp_cond_split (show _ = _ from s16) (fun hm => ?_) (fun hm => ?_)
  ·
   skip
   refine sq ?_
   refine Q04 19 [[(5, none)], [(17, some 0)]] [?b14_0, ?b14_0] Q08 hr ?t14 ?o14 ?_
   case o14 =>
    apply oc0; intro A W hx hf
    exact Q01 (a0 := a12) (r0 hf)
    apply oc0; intro A W hx hf
    exact Q03 (q0 ?b14_0 A W 17 hf)
    exact onn
   case t14 => exact inferInstance
   clear hr; intro a15 w15 x hr hd hs
   have u4 := mv s5 (fa ?b14_0 a15 w15 4 (hd 1 4 rfl))
   clear s0 s1 s7 s8 s5 s16
   have s4 := u4; clear u4
   replace e_w := e_w.trans x
   clear e_w4
   replace e_w5 := e_w5.trans x
   replace m5 := m5.tr hs rfl; clear hd hs x
   refine et ?_
   refine wp_ret ?_
   refine Q1t ?_
   refine Q0e ?_
   refine Q0e ?_
   refine Q1t ?_
   refine Q0e ?_
   refine Q0r Try.results74 hr e_w ?_
   first | exact Is.int (Q00 e_w5 s4) (Qg9 hlt hp hm).symm | exact Is.int (Q00 e_w5 s4) (Qc7 (by rw [← hp, List.take_length])).symm
  skip
  refine wp_skip ?_
  refine Q0x ?_
  refine et ?_
  refine Q04 19 [[(8, none)], [(18, some 0)]] [?b16_0, ?b16_0] Q08 hr ?t16 ?o16 ?_
  case o16 =>
   apply oc0; intro A W hx hf
   exact Q0o (o2 s8 e_w5 hx (r0 hf)) (ec A (.int .i64 1)) (by omega)
   apply oc0; intro A W hx hf
   exact Q0h (q0 ?b16_0 A W 18 hf)
   exact onn
  case t16 => exact inferInstance
  clear hr; intro a17 w17 x hr hd hs
  revert s7; revert s1; revert s0; refine kp3 hs rfl ?_; intro s0 s1 s7
  clear s8 s5 s16
  have s8 := fa ?b16_0 a17 w17 8 (hd 1 8 rfl)
  replace e_w := e_w.trans x
  replace e_w4 := e_w4.trans x
  clear e_w5
  replace m5 := m5.tr hs rfl; clear hd hs x
  refine et ?_
  refine ⟨(fun (i : Nat) => l.length - i) (i + 1), ?_, ?_⟩
  · (try dsimp only); omega
  refine ⟨i + 1, rfl, hr, m5, e_w, e_w4, (by omega), (by exact Qlf hlt hp hm), ?_⟩
  · exact s8
 have hlt : i = l.length := by simp at hlt; omega
 subst hlt
 refine wp_exit ?_
 refine Q0g ?_
 refine Q0g ?_
 refine Q1a ?_
 refine es ?_
 refine Q04 19 [[]] [?b18_0] Q08 hr ?t18 ?o18 ?_
 case o18 =>
  apply oc0; intro A W hx hf
  exact Q05
  exact onn
 case t18 => exact inferInstance
 clear hr; intro a19 w19 x hr hd hs
 clear s0 s1 s7 s8 s9
 have s4 := fa ?b18_0 a19 w19 4 (hd 0 4 rfl)
 replace e_w := e_w.trans x
 clear e_w4
 clear e_w5; clear hd hs x
 refine et ?_
 refine wp_ret ?_
 refine Q0r Try.results74 hr e_w ?_
 first | exact Is.int s4 (Qg9 hlt hp hm).symm | exact Is.int s4 (Qc7 (by rw [← hp, List.take_length])).symm

theorem Qb2 {x0 x1 : Value} {w : World} {l : List UInt8} {q : FuncId} {pr : UInt8 → Bool} (h0 : (Bs l) x0 w) (h1 : (Is (FnV q)) x1 w) (bd9 : Body Try.prog q) (cl9 : ∀ (c : UInt8) x w, ByteIs c x w → Calls Try.prog q #[x] w (Ret (Is (.bool (pr c))) w)) :
    Calls Try.prog 62 #[x0, x1] w (Ret (Is (.bool (l.any pr))) w) := by
 refine enter Try.func62 rfl Try.ntmps62 (k := 2) rfl (by decide) (fun a0 hr hargs => ?_)
 have s0 := sarg h0 (hargs 0 (by decide))
 have s1 := sarg h1 (hargs 1 (by decide))
 clear hargs
 refine sq ?_
 refine Q04 9 [[]] [?b1_0] Q08 hr ?t1 ?o1 ?_
 case o1 =>
  apply oc0; intro A W hx hf
  exact Q05
  exact onn
 case t1 => exact inferInstance
 clear hr; intro a2 w2 x hr hd hs
 revert s1; revert s0; refine kp2 hs rfl ?_; intro s0 s1
 have e_w := x; clear hd hs x
 refine es ?_
 refine Q04 9 [[(0, none)], [(1, none)], [(5, some 0), (6, some 1)], [(7, some 2)], [(8, some 3)]] [?b3_0, ?b3_1, ?b3_2, ?b3_3, ?b3_3] Q08 hr ?t3 ?o3 ?_
 case o3 =>
  apply oc0; intro A W hx hf
  exact Q01 (a0 := a2) (r0 hf)
  apply oc0; intro A W hx hf
  exact Q01 (a0 := a2) (r0 hf)
  apply oc0; intro A W hx hf
  exact Q0p Qqa (Qev (p2 s0 e_w hx (q0 ?b3_0 A W 5 hf)) (p2 s1 e_w hx (q1 ?b3_1 A W 6 hf)) (by assumption) (by assumption))
  apply oc0; intro A W hx hf
  exact Qmg (q0 ?b3_2 A W 7 hf) (ec A (.int .i64 0))
  apply oc0; intro A W hx hf
  exact Q03 (q0 ?b3_3 A W 8 hf)
  exact onn
 case t3 => exact inferInstance
 clear hr; intro a4 w4 x hr hd hs
 clear s0 s1
 have s4 := fa ?b3_3 a4 w4 4 (hd 4 4 rfl)
 replace e_w := e_w.trans x; clear hd hs x
 refine et ?_
 refine wp_ret ?_
 refine Q0r Try.results62 hr e_w ?_
 exact Is.bool s4 (Qr3 _ _)

theorem Qoi {x0 x1 : Value} {w : World} {l : List UInt8} {z : Int} (h0 : (Bs l) x0 w) (h1 : (Is (.int .i64 z)) x1 w) (hz0 : 0 ≤ z) (hz1 : z.toNat + 2 ≤ l.length) :
    Calls Try.prog 77 #[x0, x1] w (Ret (Is (.int .i64 (Q07 l z.toNat))) w) := by
 have hlen := Bs.len_le h0
 obtain ⟨i, rfl⟩ : ∃ i : Nat, z = (i : Int) := ⟨z.toNat, by omega⟩
 simp only [Int.toNat_natCast] at hz1 ⊢
 have hbe := Qdh hz1
 have hw := Q0w l i
 have h8 : (subl l i (i + 2)).take 8 = subl l i (i + 2) := List.take_of_length_le (by simp [subl]; omega)
 refine enter Try.func77 rfl Try.ntmps77 (k := 2) rfl (by decide) (fun a0 hr hargs => ?_)
 have s0 := sarg h0 (hargs 0 (by decide))
 have s1 := sarg h1 (hargs 1 (by decide))
 clear hargs
 refine sq ?_
 refine Q04 12 [[]] [?b1_0] Q08 hr ?t1 ?o1 ?_
 case o1 =>
  apply oc0; intro A W hx hf
  exact Q05
  exact onn
 case t1 => exact inferInstance
 clear hr; intro a2 w2 x hr hd hs
 revert s1; revert s0; refine kp2 hs rfl ?_; intro s0 s1
 have e_w := x; clear hd hs x
 refine es ?_
 refine Q04 12 [[(0, none)], [(1, none)], [(1, none)], [(7, some 2)], [(5, some 0), (6, some 1), (8, some 3)], [(9, some 4)], [(10, some 5)], [(11, some 6)]] [?b3_0, ?b3_1, ?b3_2, ?b3_3, ?b3_4, ?b3_5, ?b3_6, ?b3_6] Q08 hr ?t3 ?o3 ?_
 case o3 =>
  apply oc0; intro A W hx hf
  exact Q01 (a0 := a2) (r0 hf)
  apply oc0; intro A W hx hf
  exact Q01 (a0 := a2) (r0 hf)
  apply oc0; intro A W hx hf
  exact Q01 (a0 := a2) (r0 hf)
  apply oc0; intro A W hx hf
  exact Q0o (p2 s1 e_w hx (q0 ?b3_2 A W 7 hf)) (ec A (.int .i64 2)) (by omega)
  apply oc0; intro A W hx hf
  exact Q3x (i) (i + 2) tu22 Q0s (p2 s0 e_w hx (q0 ?b3_0 A W 5 hf)) (p2 s1 e_w hx (q1 ?b3_1 A W 6 hf)) (Is.int (q2 ?b3_3 A W 8 hf) (by omega)) (by first | omega | decide | (simp; done) | (simp; omega)) (by first | omega | decide | (simp; done) | (simp; omega))
  apply oc0; intro A W hx hf
  exact Q0p Qdc (Qk2 (q0 ?b3_4 A W 9 hf) (show Is (.bool true) (A.eval (.const (.bool true))) _ from rfl))
  apply oc0; intro A W hx hf
  exact Q2d tu84 tu3 (by rw [h8, hbe]; exact IntWalk.i64_in _ (by omega)) (q0 ?b3_5 A W 10 hf)
  apply oc0; intro A W hx hf
  exact Q03 (q0 ?b3_6 A W 11 hf)
  exact onn
 case t3 => exact inferInstance
 clear hr; intro a4 w4 x hr hd hs
 clear s0 s1
 have s4 := fa ?b3_6 a4 w4 4 (hd 7 4 rfl)
 replace e_w := e_w.trans x; clear hd hs x
 refine et ?_
 refine wp_ret ?_
 refine Q0r Try.results77 hr e_w ?_
 exact Is.int s4 (by rw [h8, hbe])

theorem Qn7 {x0 : Value} {w : World} {l : List UInt8} (h0 : (Bs l) x0 w) (hl : 4 ≤ l.length) :
    Calls Try.prog 79 #[x0] w (Ret (Is (AdrV (adr4 l 0))) w) := by
 refine enter Try.func79 rfl Try.ntmps79 (k := 1) rfl (by decide) (fun a0 hr hargs => ?_)
 have s0 := sarg h0 (hargs 0 (by decide))
 clear hargs
 refine sq ?_
 refine Q04 9 [[]] [?b1_0] Q08 hr ?t1 ?o1 ?_
 case o1 =>
  apply oc0; intro A W hx hf
  exact Q0y [Q0l adr0] [17] Qiq (by rfl) (by rfl) hx.size
  exact onn
 case t1 => exact inferInstance
 clear hr; intro a2 w2 x hr hd hs
 revert s0; refine kp1 hs rfl ?_; intro s0
 have s2 := fa ?b1_0 a2 w2 2 (hd 0 2 rfl)
 obtain ⟨g2_2, q2_2⟩ := PxN.at s2; clear s2; have n2_2 := PxS.lt q2_2
 have s2 := q2_2; clear q2_2
 have e_w := x; clear hd hs x
 refine es ?_
 refine Q04 9 [[]] [?b3_0] Q08 hr ?t3 ?o3 ?_
 case o3 =>
  apply oc0; intro A W hx hf
  exact Q0y [[.bool false], (List.replicate 16 0).map Q0t] [1, 16] Qiq (by rfl) (by rfl) hx.size
  exact onn
 case t3 => exact inferInstance
 clear hr; intro a4 w4 x hr hd hs
 have z_w_w2 := e_w.size
 have l4_2 := PxS.lt s2
 revert s2; revert s0; refine kp2 hs rfl ?_; intro s0 s2
 have s3 := fa ?b3_0 a4 w4 3 (hd 0 3 rfl)
 obtain ⟨g4_3, q4_3⟩ := PxN.at s3; clear s3; have n4_3 := PxS.lt q4_3
 replace q4_3 := PxS.mono q4_3 e_w.size
 have s3 := q4_3; clear q4_3
 replace e_w := e_w.trans x
 have e_w2 := x; clear hd hs x
 refine es ?_
 refine Q06 (l := [_, _, _]) (rest := [_]) 9 [[(3, none)], [(4, some 0)], [(0, none)]] [?b5_0, ?b5_1, ?b5_2] hr ?t5 ?o5 ?_
 case o5 =>
  apply oc0; intro A W hx hf
  exact Q02 1 tu25 (k := 1) rfl Q61 rfl (o1 s3 hx (r0 hf)) rfl
  apply oc0; intro A W hx hf
  exact Qb8 (4) tu23 Q0s (q0 ?b5_0 A W 4 hf) rfl (ec A (.int .i64 4)) (by first | omega | decide | (simp; done) | (simp; omega))
  apply oc0; intro A W hx hf
  exact Q01 (a0 := a4) (r0 hf)
  exact onn
 case t5 => exact inferInstance
 clear hr; intro a6 w6 x hr hd hs
 have u6 := mv s0 (fa ?b5_2 a6 w6 6 (hd 2 6 rfl))
 revert s3; revert s2; refine kp2 hs rfl ?_; intro s2 s3
 clear s0
 have s6 := u6; clear u6
 have s5 := fa ?b5_1 a6 w6 5 (hd 1 5 rfl)
 replace e_w := e_w.trans x
 replace e_w2 := e_w2.trans x
 have e_w4 := x; clear hd hs x
 have z7 := SxS.lt s5
 have l7 := (show (g4_3 = 0 ∨ w.heap.size < g4_3) ∧ True from ⟨by omega, trivial⟩)
 have l7_2 := PxS.lt (Q00 e_w2 s2)
 refine Q7n hr tu22 Q0s s5 rfl (Q00 e_w s6) ?_; clear hr; intro a7 w7 hc hu hr hs
 have hb : Below w.heap.size w6 w7 := hc.below e_w.size l7.1
 revert s3; revert s2; refine kp2 hs rfl ?_; intro s2 s3
 clear s6 s5
 replace s2 := PxS.other (Q00 e_w2 s2) hc (by omega)
 replace s3 := hu _ _ _ (Q00 e_w4 s3)
 try simp only [List.set_cons_zero, List.set_cons_succ] at s3
 replace e_w := e_w.below (Nat.le_refl _) hb
 clear e_w2
 clear e_w4
 clear hu hs hc hb
 refine wpList_nil ?_
 refine es ?_
 refine Q06 (l := [_]) (rest := [_]) 9 [[(3, none)]] [?b8_0] hr ?t8 ?o8 ?_
 case o8 =>
  apply oc0; intro A W hx hf
  exact Q0b 2 tu25 rfl Q0z (o1 s3 hx (r0 hf)) rfl
  exact onn
 case t8 => exact inferInstance
 clear hr; intro a9 w9 x hr hd hs
 revert s2; refine kp1 hs rfl ?_; intro s2
 clear s3
 have s8 := fa ?b8_0 a9 w9 8 (hd 0 8 rfl)
 replace e_w := e_w.trans x
 have e_w7 := x; clear hd hs x
 have z10 := PxS.lt (Q00 e_w7 s2)
 have l10 := (show (g2_2 = 0 ∨ w.heap.size < g2_2) ∧ True from ⟨by omega, trivial⟩)
 refine Q0k hr Q0z (Q00 e_w7 s2) s8 (by simp [cpy]; omega) (by intro u hu; simp at hu; rcases hu with rfl | ⟨c, _, rfl⟩ <;> rfl) rfl ?_; clear hr; intro a10 w10 hc hu hr hs
 have hb : Below w.heap.size w9 w10 := hc.below e_w.size l10.1
 revert s2; refine kp1 hs rfl ?_; intro s2
 clear s8
 replace s2 := hu _ _ _ (Q00 e_w7 s2)
 try simp only [List.set_cons_zero, List.set_cons_succ] at s2
 replace e_w := e_w.below (Nat.le_refl _) hb
 clear e_w7
 clear hu hs hc hb
 refine wpList_nil ?_
 refine et ?_
 refine wp_ret ?_
 refine Q7o Try.results79 hr tu25 rfl Q0z s2 e_w ?_
 exact (show Value.agg _ = _ from by simp [AdrV, Q0l, adr4, cpy, show min 4 l.length = 4 from by omega])

def Q6m : List Tmp := [21, 27, 28]
theorem Qew {x0 : Value} {w : World} {l : List UInt8} (h0 : (Bs l) x0 w)  :
    Calls Try.prog 71 #[x0] w (Ret (Tup2 (Is (Qjg (Q0q l).1)) (Is (.int .i64 (Q0q l).2))) w) := by
 have hlen := Bs.len_le h0
 have b0 := Q1q l 0
 have w2 := Q0w l 2
 have w6 := Q0w l 6
 refine enter Try.func71 rfl Try.ntmps71 (k := 1) rfl (by decide) (fun a0 hr hargs => ?_)
 have s0 := sarg h0 (hargs 0 (by decide))
 clear hargs
 refine sq ?_
 refine Q04 84 [[], []] [?b1_0, ?b1_1] Q08 hr ?t1 ?o1 ?_
 case o1 =>
  apply oc0; intro A W hx hf
  exact Q0y [(Qbu Q63).flatten] [42] Qis (by rfl) (by rfl) hx.size
  apply oc0; intro A W hx hf
  exact Q05
  exact onn
 case t1 => exact inferInstance
 clear hr; intro a2 w2 x hr hd hs
 revert s0; refine kp1 hs rfl ?_; intro s0
 have s2 := fa ?b1_0 a2 w2 2 (hd 0 2 rfl)
 obtain ⟨g2_2, q2_2⟩ := PxN.at s2; clear s2; have n2_2 := PxS.lt q2_2
 have s2 := q2_2; clear q2_2
 have e_w := x; clear hd hs x
 refine es ?_
 refine sq ?_
 refine Q04 84 [[(0, none)], [(7, some 0)], [(8, some 1)]] [?b3_0, ?b3_1, ?b3_2] Q08 hr ?t3 ?o3 ?_
 case o3 =>
  apply oc0; intro A W hx hf
  exact Q01 (a0 := a2) (r0 hf)
  apply oc0; intro A W hx hf
  exact Q0v tu22 (p2 s0 e_w hx (q0 ?b3_0 A W 7 hf))
  apply oc0; intro A W hx hf
  exact Q1b (q0 ?b3_1 A W 8 hf) (ec A (.int .i64 20))
  exact onn
 case t3 => exact inferInstance
 clear hr; intro a4 w4 x hr hd hs
 revert s2; revert s0; refine kp2 hs rfl ?_; intro s0 s2
 have s9 := fa ?b3_2 a4 w4 9 (hd 2 9 rfl)
 replace e_w := e_w.trans x
 have e_w2 := x; clear hd hs x
 refine et ?_
 refine wp_cond_split (show _ = _ from s9) (fun hl => ?_) (fun hl => ?_)
 ·
  have hl : l.length < 20 := by simp at hl; omega
  have hrd : Q0q l = (Q63, 2) := by unfold Q0q; rw [if_pos hl]
  refine sq ?_
  refine Q06 (l := [_]) (rest := [_, _]) 84 [[]] [?b6_0] hr ?t6 ?o6 ?_
  case o6 =>
   apply oc0; intro A W hx hf
   exact Q13 Q8f
   exact onn
  case t6 => exact inferInstance
  clear hr; intro a7 w7 x hr hd hs
  revert s2; refine kp1 hs rfl ?_; intro s2
  clear s0 s9
  have s10 := fa ?b6_0 a7 w7 10 (hd 0 10 rfl)
  replace e_w := e_w.trans x
  replace e_w2 := e_w2.trans x; clear hd hs x
  have z8 := PxS.lt (Q00 e_w2 s2)
  have l8 := (show (g2_2 = 0 ∨ w.heap.size < g2_2) ∧ True from ⟨by omega, trivial⟩)
  refine Q0k hr Q4g (Q00 e_w2 s2) s10 (by exact Q5t Q3e) (by exact Q51) rfl ?_; clear hr; intro a8 w8 hc hu hr hs
  have hb : Below w.heap.size w7 w8 := hc.below e_w.size l8.1
  revert s2; refine kp1 hs rfl ?_; intro s2
  clear s10
  replace s2 := hu _ _ _ (Q00 e_w2 s2)
  try simp only [List.set_cons_zero, List.set_cons_succ] at s2
  replace e_w := e_w.below (Nat.le_refl _) hb
  clear e_w2
  clear hu hs hc hb
  refine Q11 hr (Q05) inferInstance ?_; clear hr; intro a9 w9 x hr hd hs
  revert s2; refine kp1 hs rfl ?_; intro s2
  have s3 := hd 3 rfl (by decide)
  replace e_w := e_w.trans x
  have e_w8 := x; clear hd hs x
  refine wpList_nil ?_
  refine et ?_
  refine wp_ret ?_
  refine Q0e ?_
  refine Q0f Try.results71 hr tu58 rfl Q4g (Q00 e_w8 s2) e_w ?_
  (rw [hrd]; exact ⟨_, _, rfl, rfl, s3⟩)
 have hl : ¬ l.length < 20 := by simp at hl; omega
 have e0 : (l[0]'(by omega)).toNat = Q09 l 0 := (Q10 (by omega)).symm
 have e1 : (l[1]'(by omega)).toNat = Q09 l 1 := (Q10 (by omega)).symm
 have e8 : (l[8]'(by omega)).toNat = Q09 l 8 := (Q10 (by omega)).symm
 have e9 : (l[9]'(by omega)).toNat = Q09 l 9 := (Q10 (by omega)).symm
 refine wp_skip ?_
 refine es ?_
 refine Q04 84 [[(0, none)], [(11, some 0)], [(12, some 1)], [(13, some 2)], [(14, some 3)], [(15, some 4)], [(0, none)], [(17, some 6)], [(0, none)], [(19, some 8)], [(16, some 5)], [(18, some 7)], [(20, some 9)]] [?b10_0, ?b10_1, ?b10_2, ?b10_3, ?b10_4, ?b10_5, ?b10_6, ?b10_7, ?b10_8, ?b10_9, ?b10_5, ?b10_7, ?b10_9] Q08 hr ?t10 ?o10 ?_
 case o10 =>
  apply oc0; intro A W hx hf
  exact Q01 (a0 := a4) (r0 hf)
  apply oc0; intro A W hx hf
  exact Q12 (0) tu22 Q0s (p2 s0 e_w hx (q0 ?b10_0 A W 11 hf)) (ec A (.int .i64 0)) (by first | omega | decide | (simp; done) | (simp; omega))
  apply oc0; intro A W hx hf
  exact Q1d tu5 rfl (q0 ?b10_1 A W 12 hf)
  apply oc0; intro A W hx hf
  exact Qet 4 (by decide) (q0 ?b10_2 A W 13 hf) (ec A (.int .u8 15)) (by decide) (by exact Qjs _)
  apply oc0; intro A W hx hf
  exact Q2d tu5 tu3 (by exact IntWalk.i64_in _ (by omega)) (q0 ?b10_3 A W 14 hf)
  apply oc0; intro A W hx hf
  exact Q5j (q0 ?b10_4 A W 15 hf) (ec A (.int .i64 4)) (by omega)
  apply oc0; intro A W hx hf
  exact Q01 (a0 := a4) (r0 hf)
  apply oc0; intro A W hx hf
  exact Q0p Qin (Qoi (p2 s0 e_w hx (q0 ?b10_6 A W 17 hf)) (show Is (.int .i64 2) (A.eval (.const (.int .i64 2))) _ from rfl) (by decide) (by omega))
  apply oc0; intro A W hx hf
  exact Q01 (a0 := a4) (r0 hf)
  apply oc0; intro A W hx hf
  exact Q0p Qin (Qoi (p2 s0 e_w hx (q0 ?b10_8 A W 19 hf)) (show Is (.int .i64 6) (A.eval (.const (.int .i64 6))) _ from rfl) (by decide) (by omega))
  apply oc0; intro A W hx hf
  exact Q03 (q0 ?b10_5 A W 16 hf)
  apply oc0; intro A W hx hf
  exact Q03 (q0 ?b10_7 A W 18 hf)
  apply oc0; intro A W hx hf
  exact Q03 (q0 ?b10_9 A W 20 hf)
  exact onn
 case t10 => exact inferInstance
 clear hr; intro a11 w11 x hr hd hs
 revert s2; revert s0; refine kp2 hs rfl ?_; intro s0 s2
 clear s9
 have s4 := fa ?b10_5 a11 w11 4 (hd 10 4 rfl)
 have s5 := fa ?b10_7 a11 w11 5 (hd 11 5 rfl)
 have s6 := fa ?b10_9 a11 w11 6 (hd 12 6 rfl)
 replace e_w := e_w.trans x
 replace e_w2 := e_w2.trans x; clear hd hs x
 replace s4 := Is.int s4 (show _ = Q09 l 0 % 16 * 4 from by rw [e0]; rfl)
 refine es ?_
 refine wp_block ?_
 refine sq ?_
 refine sq ?_
 refine Q04 84 [[(0, none)], [(22, some 0)], [(23, some 1)], [(24, some 2)], [(25, some 3)], [(26, some 4)]] [?b12_0, ?b12_1, ?b12_2, ?b12_3, ?b12_4, ?b12_4] Q08 hr ?t12 ?o12 ?_
 case o12 =>
  apply oc0; intro A W hx hf
  exact Q01 (a0 := a11) (r0 hf)
  apply oc0; intro A W hx hf
  exact Q12 (0) tu22 Q0s (p2 s0 e_w hx (q0 ?b12_0 A W 22 hf)) (ec A (.int .i64 0)) (by first | omega | decide | (simp; done) | (simp; omega))
  apply oc0; intro A W hx hf
  exact Q1d tu5 rfl (q0 ?b12_1 A W 23 hf)
  apply oc0; intro A W hx hf
  exact Qcz 4 (by decide) (q0 ?b12_2 A W 24 hf) (ec A (.int .u64 4))
  apply oc0; intro A W hx hf
  exact Q48 (q0 ?b12_3 A W 25 hf) (ec A (.int .u8 4))
  apply oc0; intro A W hx hf
  exact Q03 (q0 ?b12_4 A W 26 hf)
  exact onn
 case t12 => exact inferInstance
 clear hr; intro a13 w13 x hr hd hs
 revert s4; revert s6; revert s5; revert s2; revert s0; refine kp5 hs rfl ?_; intro s0 s2 s5 s6 s4
 have s21 := fa ?b12_4 a13 w13 21 (hd 5 21 rfl)
 replace e_w := e_w.trans x
 replace e_w2 := e_w2.trans x
 have e_w11 := x; clear hd hs x
 refine et ?_
 refine Q33 (fun A W => Fr 84 A ∧ Same Q6m a13 A ∧ Ext w W ∧ (Is (.bool (decide (Q09 l 0 / 16 ≠ 4 ∨ Q09 l 0 % 16 * 4 < 20)))) (A.eval (.tmp 21)) W ∧ (PxS g2_2 w.heap.size [42] [(Qbu Q63).flatten] 0) (A.eval (.tmp 2)) W) ?cut14 ?_
 case cut14 =>
  have m14 : Same Q6m a13 a13 := Same.rfl
  refine wp_cond_split (show _ = _ from s21) (fun hv => ?_) (fun hv => ?_)
  ·
   skip
   refine wp_skip ?_
   refine et ?_
   refine ⟨hr, m14, e_w, ?_, ?_⟩
   · first | exact Is.bool s21 (Qji e0 hv) | exact Is.bool s21 (Qjj e0 hv)
   · exact (Q00 e_w2 s2)
  skip
  refine Q04 84 [[(4, none)], [(27, some 0)], [(28, some 1)]] [?b16_0, ?b16_1, ?b16_1] Q08 hr ?t16 ?o16 ?_
  case o16 =>
   apply oc0; intro A W hx hf
   exact Q01 (a0 := a13) (r0 hf)
   apply oc0; intro A W hx hf
   exact Q1b (p2 s4 e_w11 hx (q0 ?b16_0 A W 27 hf)) (ec A (.int .i64 20))
   apply oc0; intro A W hx hf
   exact Q03 (q0 ?b16_1 A W 28 hf)
   exact onn
  case t16 => exact inferInstance
  clear hr; intro a17 w17 x hr hd hs
  revert s4; revert s6; revert s5; revert s2; revert s0; refine kp5 hs rfl ?_; intro s0 s2 s5 s6 s4
  clear s21
  have s21 := fa ?b16_1 a17 w17 21 (hd 2 21 rfl)
  replace e_w := e_w.trans x
  replace e_w2 := e_w2.trans x
  replace e_w11 := e_w11.trans x
  replace m14 := m14.tr hs rfl; clear hd hs x
  refine et ?_
  refine ⟨hr, m14, e_w, ?_, ?_⟩
  · first | exact Is.bool s21 (Qji e0 hv) | exact Is.bool s21 (Qjj e0 hv)
  · exact (Q00 e_w2 s2)
 intro a14 w14 hI
 clear e_w
 clear e_w2
 clear e_w11
 clear hr; obtain ⟨hr, hs, e_w, u21, u2⟩ := hI
 revert s4; revert s6; revert s5; revert s0; refine kp4 hs rfl ?_; intro s0 s5 s6 s4
 clear s2 s21
 have s21 := u21; clear u21
 have s2 := u2; clear u2
 replace s5 := anyw (w2 := w14) s5
 replace s6 := anyw (w2 := w14) s6
 replace s4 := anyw (w2 := w14) s4
 clear hs
 refine wp_cond_split (show _ = _ from s21) (fun hv => ?_) (fun hv => ?_)
 ·
  have hv := of_decide_eq_true hv
  have hrd : Q0q l = (Q63, 3) := by unfold Q0q; rw [if_neg hl, if_pos hv]
  refine sq ?_
  refine Q06 (l := [_]) (rest := [_, _]) 84 [[]] [?b19_0] hr ?t19 ?o19 ?_
  case o19 =>
   apply oc0; intro A W hx hf
   exact Q13 Q8f
   exact onn
  case t19 => exact inferInstance
  clear hr; intro a20 w20 x hr hd hs
  revert s2; refine kp1 hs rfl ?_; intro s2
  clear s0 s21 s5 s6 s4
  have s29 := fa ?b19_0 a20 w20 29 (hd 0 29 rfl)
  replace e_w := e_w.trans x
  have e_w14 := x; clear hd hs x
  have z21 := PxS.lt (Q00 e_w14 s2)
  have l21 := (show (g2_2 = 0 ∨ w.heap.size < g2_2) ∧ True from ⟨by omega, trivial⟩)
  refine Q0k hr Q4g (Q00 e_w14 s2) s29 (by exact Q5t Q3e) (by exact Q51) rfl ?_; clear hr; intro a21 w21 hc hu hr hs
  have hb : Below w.heap.size w20 w21 := hc.below e_w.size l21.1
  revert s2; refine kp1 hs rfl ?_; intro s2
  clear s29
  replace s2 := hu _ _ _ (Q00 e_w14 s2)
  try simp only [List.set_cons_zero, List.set_cons_succ] at s2
  replace e_w := e_w.below (Nat.le_refl _) hb
  clear e_w14
  clear hu hs hc hb
  refine Q11 hr (Q05) inferInstance ?_; clear hr; intro a22 w22 x hr hd hs
  revert s2; refine kp1 hs rfl ?_; intro s2
  have s3 := hd 3 rfl (by decide)
  replace e_w := e_w.trans x
  have e_w21 := x; clear hd hs x
  refine wpList_nil ?_
  refine et ?_
  refine wp_ret ?_
  refine Q1t ?_
  refine Q0e ?_
  refine Q0f Try.results71 hr tu58 rfl Q4g (Q00 e_w21 s2) e_w ?_
  (rw [hrd]; exact ⟨_, _, rfl, rfl, s3⟩)
 have hv := of_decide_eq_false hv
 refine sq ?_
 refine Q04 84 [[(4, none)], [(0, none)], [(32, some 1)], [(31, some 0), (33, some 2)], [(34, some 3)]] [?b23_0, ?b23_1, ?b23_2, ?b23_3, ?b23_3] Q08 hr ?t23 ?o23 ?_
 case o23 =>
  apply oc0; intro A W hx hf
  exact Q01 (a0 := a14) (r0 hf)
  apply oc0; intro A W hx hf
  exact Q01 (a0 := a14) (r0 hf)
  apply oc0; intro A W hx hf
  exact Q0v tu22 (p2 s0 e_w hx (q0 ?b23_1 A W 32 hf))
  apply oc0; intro A W hx hf
  exact Q3m (p1 s4 hx (q0 ?b23_0 A W 31 hf)) (q1 ?b23_2 A W 33 hf)
  apply oc0; intro A W hx hf
  exact Q03 (q0 ?b23_3 A W 34 hf)
  exact onn
 case t23 => exact inferInstance
 clear hr; intro a24 w24 x hr hd hs
 revert s4; revert s6; revert s5; revert s2; revert s0; refine kp5 hs rfl ?_; intro s0 s2 s5 s6 s4
 clear s21
 have s30 := fa ?b23_3 a24 w24 30 (hd 4 30 rfl)
 replace e_w := e_w.trans x
 have e_w14 := x; clear hd hs x
 refine et ?_
 refine wp_cond_split (show _ = _ from s30) (fun hh => ?_) (fun hh => ?_)
 ·
  have hh : Q09 l 0 % 16 * 4 > (l.length : Int) := by simpa using hh
  have hrd : Q0q l = (Q63, 2) := by unfold Q0q; rw [if_neg hl, if_neg hv, if_pos hh]
  refine sq ?_
  refine Q06 (l := [_]) (rest := [_, _]) 84 [[]] [?b26_0] hr ?t26 ?o26 ?_
  case o26 =>
   apply oc0; intro A W hx hf
   exact Q13 Q8f
   exact onn
  case t26 => exact inferInstance
  clear hr; intro a27 w27 x hr hd hs
  revert s2; refine kp1 hs rfl ?_; intro s2
  clear s0 s5 s6 s4 s30
  have s35 := fa ?b26_0 a27 w27 35 (hd 0 35 rfl)
  replace e_w := e_w.trans x
  replace e_w14 := e_w14.trans x; clear hd hs x
  have z28 := PxS.lt (Q00 e_w14 s2)
  have l28 := (show (g2_2 = 0 ∨ w.heap.size < g2_2) ∧ True from ⟨by omega, trivial⟩)
  refine Q0k hr Q4g (Q00 e_w14 s2) s35 (by exact Q5t Q3e) (by exact Q51) rfl ?_; clear hr; intro a28 w28 hc hu hr hs
  have hb : Below w.heap.size w27 w28 := hc.below e_w.size l28.1
  revert s2; refine kp1 hs rfl ?_; intro s2
  clear s35
  replace s2 := hu _ _ _ (Q00 e_w14 s2)
  try simp only [List.set_cons_zero, List.set_cons_succ] at s2
  replace e_w := e_w.below (Nat.le_refl _) hb
  clear e_w14
  clear hu hs hc hb
  refine Q11 hr (Q05) inferInstance ?_; clear hr; intro a29 w29 x hr hd hs
  revert s2; refine kp1 hs rfl ?_; intro s2
  have s3 := hd 3 rfl (by decide)
  replace e_w := e_w.trans x
  have e_w28 := x; clear hd hs x
  refine wpList_nil ?_
  refine et ?_
  refine wp_ret ?_
  refine Q1t ?_
  refine Q0e ?_
  refine Q0f Try.results71 hr tu58 rfl Q4g (Q00 e_w28 s2) e_w ?_
  (rw [hrd]; exact ⟨_, _, rfl, rfl, s3⟩)
 have hh : ¬ Q09 l 0 % 16 * 4 > (l.length : Int) := by simpa using hh
 refine sq ?_
 refine Q04 84 [[(5, none)], [(4, none)], [(37, some 0), (38, some 1)], [(39, some 2)]] [?b30_0, ?b30_1, ?b30_2, ?b30_2] Q08 hr ?t30 ?o30 ?_
 case o30 =>
  apply oc0; intro A W hx hf
  exact Q01 (a0 := a24) (r0 hf)
  apply oc0; intro A W hx hf
  exact Q01 (a0 := a24) (r0 hf)
  apply oc0; intro A W hx hf
  exact Q1b (p2 s5 e_w14 hx (q0 ?b30_0 A W 37 hf)) (p2 s4 e_w14 hx (q1 ?b30_1 A W 38 hf))
  apply oc0; intro A W hx hf
  exact Q03 (q0 ?b30_2 A W 39 hf)
  exact onn
 case t30 => exact inferInstance
 clear hr; intro a31 w31 x hr hd hs
 revert s4; revert s6; revert s5; revert s2; revert s0; refine kp5 hs rfl ?_; intro s0 s2 s5 s6 s4
 clear s30
 have s36 := fa ?b30_2 a31 w31 36 (hd 3 36 rfl)
 replace e_w := e_w.trans x
 replace e_w14 := e_w14.trans x; clear hd hs x
 refine et ?_
 refine wp_cond_split (show _ = _ from s36) (fun ht => ?_) (fun ht => ?_)
 ·
  have ht : Q07 l 2 < Q09 l 0 % 16 * 4 := by simpa using ht
  have hrd : Q0q l = (Q63, 3) := by unfold Q0q; rw [if_neg hl, if_neg hv, if_neg hh, if_pos ht]
  refine sq ?_
  refine Q06 (l := [_]) (rest := [_, _]) 84 [[]] [?b33_0] hr ?t33 ?o33 ?_
  case o33 =>
   apply oc0; intro A W hx hf
   exact Q13 Q8f
   exact onn
  case t33 => exact inferInstance
  clear hr; intro a34 w34 x hr hd hs
  revert s2; refine kp1 hs rfl ?_; intro s2
  clear s0 s5 s6 s4 s36
  have s40 := fa ?b33_0 a34 w34 40 (hd 0 40 rfl)
  replace e_w := e_w.trans x
  replace e_w14 := e_w14.trans x; clear hd hs x
  have z35 := PxS.lt (Q00 e_w14 s2)
  have l35 := (show (g2_2 = 0 ∨ w.heap.size < g2_2) ∧ True from ⟨by omega, trivial⟩)
  refine Q0k hr Q4g (Q00 e_w14 s2) s40 (by exact Q5t Q3e) (by exact Q51) rfl ?_; clear hr; intro a35 w35 hc hu hr hs
  have hb : Below w.heap.size w34 w35 := hc.below e_w.size l35.1
  revert s2; refine kp1 hs rfl ?_; intro s2
  clear s40
  replace s2 := hu _ _ _ (Q00 e_w14 s2)
  try simp only [List.set_cons_zero, List.set_cons_succ] at s2
  replace e_w := e_w.below (Nat.le_refl _) hb
  clear e_w14
  clear hu hs hc hb
  refine Q11 hr (Q05) inferInstance ?_; clear hr; intro a36 w36 x hr hd hs
  revert s2; refine kp1 hs rfl ?_; intro s2
  have s3 := hd 3 rfl (by decide)
  replace e_w := e_w.trans x
  have e_w35 := x; clear hd hs x
  refine wpList_nil ?_
  refine et ?_
  refine wp_ret ?_
  refine Q1t ?_
  refine Q0e ?_
  refine Q0f Try.results71 hr tu58 rfl Q4g (Q00 e_w35 s2) e_w ?_
  (rw [hrd]; exact ⟨_, _, rfl, rfl, s3⟩)
 have ht : ¬ Q07 l 2 < Q09 l 0 % 16 * 4 := by simpa using ht
 refine sq ?_
 refine Q04 84 [[(5, none)], [(0, none)], [(43, some 1)], [(42, some 0), (44, some 2)], [(45, some 3)]] [?b37_0, ?b37_1, ?b37_2, ?b37_3, ?b37_3] Q08 hr ?t37 ?o37 ?_
 case o37 =>
  apply oc0; intro A W hx hf
  exact Q01 (a0 := a31) (r0 hf)
  apply oc0; intro A W hx hf
  exact Q01 (a0 := a31) (r0 hf)
  apply oc0; intro A W hx hf
  exact Q0v tu22 (p2 s0 e_w hx (q0 ?b37_1 A W 43 hf))
  apply oc0; intro A W hx hf
  exact Q3m (p2 s5 e_w14 hx (q0 ?b37_0 A W 42 hf)) (q1 ?b37_2 A W 44 hf)
  apply oc0; intro A W hx hf
  exact Q03 (q0 ?b37_3 A W 45 hf)
  exact onn
 case t37 => exact inferInstance
 clear hr; intro a38 w38 x hr hd hs
 revert s4; revert s6; revert s5; revert s2; revert s0; refine kp5 hs rfl ?_; intro s0 s2 s5 s6 s4
 clear s36
 have s41 := fa ?b37_3 a38 w38 41 (hd 4 41 rfl)
 replace e_w := e_w.trans x
 replace e_w14 := e_w14.trans x; clear hd hs x
 refine et ?_
 refine wp_cond_split (show _ = _ from s41) (fun hu => ?_) (fun hu => ?_)
 ·
  have hu : Q07 l 2 > (l.length : Int) := by simpa using hu
  have hrd : Q0q l = (Q63, 2) := by unfold Q0q; rw [if_neg hl, if_neg hv, if_neg hh, if_neg ht, if_pos hu]
  refine sq ?_
  refine Q06 (l := [_]) (rest := [_, _]) 84 [[]] [?b40_0] hr ?t40 ?o40 ?_
  case o40 =>
   apply oc0; intro A W hx hf
   exact Q13 Q8f
   exact onn
  case t40 => exact inferInstance
  clear hr; intro a41 w41 x hr hd hs
  revert s2; refine kp1 hs rfl ?_; intro s2
  clear s0 s5 s6 s4 s41
  have s46 := fa ?b40_0 a41 w41 46 (hd 0 46 rfl)
  replace e_w := e_w.trans x
  replace e_w14 := e_w14.trans x; clear hd hs x
  have z42 := PxS.lt (Q00 e_w14 s2)
  have l42 := (show (g2_2 = 0 ∨ w.heap.size < g2_2) ∧ True from ⟨by omega, trivial⟩)
  refine Q0k hr Q4g (Q00 e_w14 s2) s46 (by exact Q5t Q3e) (by exact Q51) rfl ?_; clear hr; intro a42 w42 hc hu hr hs
  have hb : Below w.heap.size w41 w42 := hc.below e_w.size l42.1
  revert s2; refine kp1 hs rfl ?_; intro s2
  clear s46
  replace s2 := hu _ _ _ (Q00 e_w14 s2)
  try simp only [List.set_cons_zero, List.set_cons_succ] at s2
  replace e_w := e_w.below (Nat.le_refl _) hb
  clear e_w14
  clear hu hs hc hb
  refine Q11 hr (Q05) inferInstance ?_; clear hr; intro a43 w43 x hr hd hs
  revert s2; refine kp1 hs rfl ?_; intro s2
  have s3 := hd 3 rfl (by decide)
  replace e_w := e_w.trans x
  have e_w42 := x; clear hd hs x
  refine wpList_nil ?_
  refine et ?_
  refine wp_ret ?_
  refine Q1t ?_
  refine Q0e ?_
  refine Q0f Try.results71 hr tu58 rfl Q4g (Q00 e_w42 s2) e_w ?_
  (rw [hrd]; exact ⟨_, _, rfl, rfl, s3⟩)
 have hu : ¬ Q07 l 2 > (l.length : Int) := by simpa using hu
 refine sq ?_
 refine Q04 84 [[(0, none)], [(4, none)], [(48, some 0), (49, some 1)], [(50, some 2)], [(51, some 3)], [(52, some 4)], [(53, some 5)]] [?b44_0, ?b44_1, ?b44_2, ?b44_3, ?b44_4, ?b44_5, ?b44_5] Q08 hr ?t44 ?o44 ?_
 case o44 =>
  apply oc0; intro A W hx hf
  exact Q01 (a0 := a38) (r0 hf)
  apply oc0; intro A W hx hf
  exact Q01 (a0 := a38) (r0 hf)
  apply oc0; intro A W hx hf
  exact Q4x ((Q09 l 0 % 16 * 4).toNat) tu22 Q0s (sarg s0 (show _ = _ from (q0 ?b44_0 A W 48 hf))) (Is.int (p2 s4 e_w14 hx (q1 ?b44_1 A W 49 hf)) (by omega)) (by omega)
  apply oc0; intro A W hx hf
  exact Qec [(.tmp 50)] [_] Qnq Qmx Qqk rfl rfl (by decide) (PartsOk.cons (AtW.now (q0 ?b44_2 A W 50 hf) (e_w.trans hx)) (PartsOk.nil))
  apply oc0; intro A W hx hf
  exact Q18 Qqb (Qoj (q0 ?b44_3 A W 51 hf))
  apply oc0; intro A W hx hf
  exact Q43 (q0 ?b44_4 A W 52 hf)
  apply oc0; intro A W hx hf
  exact Q03 (q0 ?b44_5 A W 53 hf)
  exact onn
 case t44 => exact inferInstance
 clear hr; intro a45 w45 x hr hd hs
 revert s4; revert s6; revert s5; revert s2; revert s0; refine kp5 hs rfl ?_; intro s0 s2 s5 s6 s4
 clear s41
 have s47 := fa ?b44_5 a45 w45 47 (hd 6 47 rfl)
 replace e_w := e_w.trans x
 replace e_w14 := e_w14.trans x; clear hd hs x
 refine et ?_
 refine wp_cond_split (show _ = _ from s47) (fun hs => ?_) (fun hs => ?_)
 ·
  have hs : ck (l.take (Q09 l 0 % 16 * 4).toNat) ≠ 0 := by simpa using hs
  have hrd : Q0q l = (Q63, 8) := by unfold Q0q; rw [if_neg hl, if_neg hv, if_neg hh, if_neg ht, if_neg hu, if_pos hs]
  refine sq ?_
  refine Q06 (l := [_]) (rest := [_, _]) 84 [[]] [?b47_0] hr ?t47 ?o47 ?_
  case o47 =>
   apply oc0; intro A W hx hf
   exact Q13 Q8f
   exact onn
  case t47 => exact inferInstance
  clear hr; intro a48 w48 x hr hd hs
  revert s2; refine kp1 hs rfl ?_; intro s2
  clear s0 s5 s6 s4 s47
  have s54 := fa ?b47_0 a48 w48 54 (hd 0 54 rfl)
  replace e_w := e_w.trans x
  replace e_w14 := e_w14.trans x; clear hd hs x
  have z49 := PxS.lt (Q00 e_w14 s2)
  have l49 := (show (g2_2 = 0 ∨ w.heap.size < g2_2) ∧ True from ⟨by omega, trivial⟩)
  refine Q0k hr Q4g (Q00 e_w14 s2) s54 (by exact Q5t Q3e) (by exact Q51) rfl ?_; clear hr; intro a49 w49 hc hu hr hs
  have hb : Below w.heap.size w48 w49 := hc.below e_w.size l49.1
  revert s2; refine kp1 hs rfl ?_; intro s2
  clear s54
  replace s2 := hu _ _ _ (Q00 e_w14 s2)
  try simp only [List.set_cons_zero, List.set_cons_succ] at s2
  replace e_w := e_w.below (Nat.le_refl _) hb
  clear e_w14
  clear hu hs hc hb
  refine Q11 hr (Q05) inferInstance ?_; clear hr; intro a50 w50 x hr hd hs
  revert s2; refine kp1 hs rfl ?_; intro s2
  have s3 := hd 3 rfl (by decide)
  replace e_w := e_w.trans x
  have e_w49 := x; clear hd hs x
  refine wpList_nil ?_
  refine et ?_
  refine wp_ret ?_
  refine Q1t ?_
  refine Q0e ?_
  refine Q0f Try.results71 hr tu58 rfl Q4g (Q00 e_w49 s2) e_w ?_
  (rw [hrd]; exact ⟨_, _, rfl, rfl, s3⟩)
 have hs : ¬ ck (l.take (Q09 l 0 % 16 * 4).toNat) ≠ 0 := by simpa using hs
 have hrd := Q30 hl hv hh ht hu hs
 refine wp_skip ?_
 refine Q0x ?_
 refine es ?_
 refine Q1s Q08 (fun w51 x => ?_)
 show wpAny _ _ _ _ 31 _ _ _
 replace e_w := e_w.trans x
 replace e_w14 := e_w14.trans x
 have e_w45 := x
 clear x
 refine Q60 (l := (_ :: _ :: _ :: _ :: _ :: _ :: _ :: _ :: _ :: _ :: _ :: _ :: _ :: _ :: _ :: _ :: _ :: _ :: _ :: _ :: _ :: _ :: _ :: _ :: _ :: _ :: _ :: _ :: _ :: _ :: _ :: [])) 84 _ (false :: false :: false :: false :: false :: false :: false :: false :: false :: false :: false :: false :: false :: false :: false :: false :: false :: false :: false :: false :: false :: false :: false :: false :: false :: false :: false :: false :: false :: true :: true :: []) [29, 30] ([(4, none)] :: [(5, none)] :: [(0, none)] :: [(57, some 2)] :: [(58, some 3)] :: [(59, some 4)] :: [(0, none)] :: [(61, some 6)] :: [(6, none)] :: [(63, some 8)] :: [(64, some 9)] :: [(6, none)] :: [(66, some 11)] :: [(67, some 12)] :: [(0, none)] :: [(69, some 14)] :: [(70, some 15)] :: [(71, some 16)] :: [(0, none)] :: [(73, some 18)] :: [(74, some 19)] :: [(75, some 20)] :: [(0, none)] :: [(77, some 22)] :: [(78, some 23)] :: [(0, none)] :: [(80, some 25)] :: [(81, some 26)] :: [(55, some 0), (56, some 1), (60, some 5), (62, some 7), (65, some 10), (68, some 13), (72, some 17), (76, some 21), (79, some 24), (82, some 27)] :: [] :: [] :: []) (?b52_0 :: ?b52_1 :: ?b52_2 :: ?b52_3 :: ?b52_4 :: ?b52_5 :: ?b52_6 :: ?b52_7 :: ?b52_8 :: ?b52_9 :: ?b52_10 :: ?b52_11 :: ?b52_12 :: ?b52_13 :: ?b52_14 :: ?b52_15 :: ?b52_16 :: ?b52_17 :: ?b52_18 :: ?b52_19 :: ?b52_20 :: ?b52_21 :: ?b52_22 :: ?b52_23 :: ?b52_24 :: ?b52_25 :: ?b52_26 :: ?b52_27 :: ?b52_28 :: VP.top :: VP.top :: []) (by kernel_rfl) rfl (by kernel_rfl) hr ?t52 ?o52 ?_
 case o52 =>
  apply lc0; intro A W hx hf
  exact Q01 (a0 := a45) (r0 hf)
  apply lc0; intro A W hx hf
  exact Q01 (a0 := a45) (r0 hf)
  apply lc0; intro A W hx hf
  exact Q01 (a0 := a45) (r0 hf)
  apply lc0; intro A W hx hf
  exact Q12 (1) tu22 Q0s (p2 s0 e_w hx (q0 ?b52_2 A W 57 hf)) (ec A (.int .i64 1)) (by first | omega | decide | (simp; done) | (simp; omega))
  apply lc0; intro A W hx hf
  exact Q1d tu5 rfl (q0 ?b52_3 A W 58 hf)
  apply lc0; intro A W hx hf
  exact Q2k tu5 tu3 (by decide) (q0 ?b52_4 A W 59 hf)
  apply lc0; intro A W hx hf
  exact Q01 (a0 := a45) (r0 hf)
  apply lc0; intro A W hx hf
  exact Q0p Qin (Qoi (p2 s0 e_w hx (q0 ?b52_6 A W 61 hf)) (show Is (.int .i64 4) (A.eval (.const (.int .i64 4))) _ from rfl) (by decide) (by omega))
  apply lc0; intro A W hx hf
  exact Q01 (a0 := a45) (r0 hf)
  apply lc0; intro A W hx hf
  exact Qet 14 (by decide) (p2 s6 e_w14 hx (q0 ?b52_8 A W 63 hf)) (ec A (.int .i64 16383)) (by decide) (by simp [IntKind.max, IntKind.signed, IntKind.bits]; omega)
  apply lc0; intro A W hx hf
  exact Q48 (q0 ?b52_9 A W 64 hf) (ec A (.int .i64 0))
  apply lc0; intro A W hx hf
  exact Q01 (a0 := a45) (r0 hf)
  apply lc0; intro A W hx hf
  exact Qbo (p2 s6 e_w14 hx (q0 ?b52_11 A W 66 hf)) (ec A (.int .i64 16384))
  apply lc0; intro A W hx hf
  exact Q48 (q0 ?b52_12 A W 67 hf) (ec A (.int .i64 0))
  apply lc0; intro A W hx hf
  exact Q01 (a0 := a45) (r0 hf)
  apply lc0; intro A W hx hf
  exact Q12 (8) tu22 Q0s (p2 s0 e_w hx (q0 ?b52_14 A W 69 hf)) (ec A (.int .i64 8)) (by first | omega | decide | (simp; done) | (simp; omega))
  apply lc0; intro A W hx hf
  exact Q1d tu5 rfl (q0 ?b52_15 A W 70 hf)
  apply lc0; intro A W hx hf
  exact Q2k tu5 tu3 (by decide) (q0 ?b52_16 A W 71 hf)
  apply lc0; intro A W hx hf
  exact Q01 (a0 := a45) (r0 hf)
  apply lc0; intro A W hx hf
  exact Q12 (9) tu22 Q0s (p2 s0 e_w hx (q0 ?b52_18 A W 73 hf)) (ec A (.int .i64 9)) (by first | omega | decide | (simp; done) | (simp; omega))
  apply lc0; intro A W hx hf
  exact Q1d tu5 rfl (q0 ?b52_19 A W 74 hf)
  apply lc0; intro A W hx hf
  exact Q2k tu5 tu3 (by decide) (q0 ?b52_20 A W 75 hf)
  apply lc0; intro A W hx hf
  exact Q01 (a0 := a45) (r0 hf)
  apply lc0; intro A W hx hf
  exact Q2e (12) tu22 Q0s (sarg s0 (show _ = _ from (q0 ?b52_22 A W 77 hf))) (ec A (.int .i64 12)) (by first | omega | decide | (simp; done) | (simp; omega))
  apply lc0; intro A W hx hf
  exact Q18 Qmu (Qn7 (AtW.now (q0 ?b52_23 A W 78 hf) (e_w.trans hx)) (by simp; omega))
  apply lc0; intro A W hx hf
  exact Q01 (a0 := a45) (r0 hf)
  apply lc0; intro A W hx hf
  exact Q2e (16) tu22 Q0s (sarg s0 (show _ = _ from (q0 ?b52_25 A W 80 hf))) (ec A (.int .i64 16)) (by first | omega | decide | (simp; done) | (simp; omega))
  apply lc0; intro A W hx hf
  exact Q18 Qmu (Qn7 (AtW.now (q0 ?b52_26 A W 81 hf) (e_w.trans hx)) (by simp; omega))
  apply lc0; intro A W hx hf
  exact Q1e [(0, (.tmp 55)), (1, (.tmp 56)), (2, (.tmp 60)), (3, (.tmp 62)), (4, (.tmp 65)), (5, (.tmp 68)), (6, (.tmp 72)), (7, (.tmp 76)), (8, (.tmp 79)), (9, (.tmp 82))] [(0, _), (1, _), (2, _), (3, _), (4, _), (5, _), (6, _), (7, _), (8, _), (9, _)] Qqh rfl (PartsC.one (p2 s4 e_w14 hx (q0 ?b52_0 A W 55 hf)) rfl (PartsC.one (p2 s5 e_w14 hx (q1 ?b52_1 A W 56 hf)) rfl (PartsC.one (q2 ?b52_5 A W 60 hf) rfl (PartsC.one (q3 ?b52_7 A W 62 hf) rfl (PartsC.one (q4 ?b52_10 A W 65 hf) rfl (PartsC.one (q5 ?b52_13 A W 68 hf) rfl (PartsC.one (q6 ?b52_17 A W 72 hf) rfl (PartsC.one (q7 ?b52_21 A W 76 hf) rfl (PartsC.agg (q8 ?b52_24 A W 79 hf) (PartsC.agg (q9 ?b52_27 A W 82 hf) (PartsC.nil))))))))))) (by simp [Q8x (Q6u (l := l.drop 12) (i := 0) (by simp; omega)), Q8x (Q6u (l := l.drop 16) (i := 0) (by simp; omega))])
  refine lcs ?_
  refine lcs ?_
  exact lcn
 case t52 => repeat (first | exact Q9h | refine Q7e ?_)
 clear hr; intro a53 w53 x hr hd hs
 have u55 := mv s4 (fa ?b52_0 a53 w53 55 (hd 0 55 rfl rfl))
 have u56 := mv s5 (fa ?b52_1 a53 w53 56 (hd 1 56 rfl rfl))
 have u57 := mv s0 (fa ?b52_2 a53 w53 57 (hd 2 57 rfl rfl))
 have u61 := mv s0 (fa ?b52_6 a53 w53 61 (hd 6 61 rfl rfl))
 have u63 := mv s6 (fa ?b52_8 a53 w53 63 (hd 8 63 rfl rfl))
 have u66 := mv s6 (fa ?b52_11 a53 w53 66 (hd 11 66 rfl rfl))
 have u69 := mv s0 (fa ?b52_14 a53 w53 69 (hd 14 69 rfl rfl))
 have u73 := mv s0 (fa ?b52_18 a53 w53 73 (hd 18 73 rfl rfl))
 have u77 := mv s0 (fa ?b52_22 a53 w53 77 (hd 22 77 rfl rfl))
 have u80 := mv s0 (fa ?b52_25 a53 w53 80 (hd 25 80 rfl rfl))
 revert s4; revert s6; revert s5; revert s2; revert s0; refine kp5 hs rfl ?_; intro s0 s2 s5 s6 s4
 clear s47
 have s55 := u55; clear u55
 have s56 := u56; clear u56
 have s57 := u57; clear u57
 have s61 := u61; clear u61
 have s63 := u63; clear u63
 have s66 := u66; clear u66
 have s69 := u69; clear u69
 have s73 := u73; clear u73
 have s77 := u77; clear u77
 have s80 := u80; clear u80
 have s58 := fa ?b52_3 a53 w53 58 (hd 3 58 rfl rfl)
 have s59 := fa ?b52_4 a53 w53 59 (hd 4 59 rfl rfl)
 have s60 := fa ?b52_5 a53 w53 60 (hd 5 60 rfl rfl)
 have s62 := fa ?b52_7 a53 w53 62 (hd 7 62 rfl rfl)
 have s64 := fa ?b52_9 a53 w53 64 (hd 9 64 rfl rfl)
 have s65 := fa ?b52_10 a53 w53 65 (hd 10 65 rfl rfl)
 have s67 := fa ?b52_12 a53 w53 67 (hd 12 67 rfl rfl)
 have s68 := fa ?b52_13 a53 w53 68 (hd 13 68 rfl rfl)
 have s70 := fa ?b52_15 a53 w53 70 (hd 15 70 rfl rfl)
 have s71 := fa ?b52_16 a53 w53 71 (hd 16 71 rfl rfl)
 have s72 := fa ?b52_17 a53 w53 72 (hd 17 72 rfl rfl)
 have s74 := fa ?b52_19 a53 w53 74 (hd 19 74 rfl rfl)
 have s75 := fa ?b52_20 a53 w53 75 (hd 20 75 rfl rfl)
 have s76 := fa ?b52_21 a53 w53 76 (hd 21 76 rfl rfl)
 have s78 := AtW.base (fa ?b52_23 a53 w53 78 (hd 23 78 rfl rfl))
 have s79 := fa ?b52_24 a53 w53 79 (hd 24 79 rfl rfl)
 have s81 := AtW.base (fa ?b52_26 a53 w53 81 (hd 26 81 rfl rfl))
 have s82 := fa ?b52_27 a53 w53 82 (hd 27 82 rfl rfl)
 have s83 := fa ?b52_28 a53 w53 83 (hd 28 83 rfl rfl)
 replace e_w := e_w.trans x
 replace e_w14 := e_w14.trans x
 clear e_w45; clear hd hs x
 show wpList _ _ _ [_, _] _ _
 have z54 := PxS.lt (Q00 e_w14 s2)
 have l54 := (show (g2_2 = 0 ∨ w.heap.size < g2_2) ∧ True from ⟨by omega, trivial⟩)
 refine Q0k hr Q4g (Q00 e_w14 s2) (Is.conv s83 (Qhb e1 e8 e9 w6)) (by exact Q5t ⟨Q6u (by simp; omega), Q6u (by simp; omega)⟩) (by exact Q51) rfl ?_; clear hr; intro a54 w54 hc hu hr hs
 have hb : Below w.heap.size w53 w54 := hc.below e_w.size l54.1
 revert s2; refine kp1 hs rfl ?_; intro s2
 clear s0 s5 s6 s4 s55 s56 s57 s61 s63 s66 s69 s73 s77 s80 s58 s59 s60 s62 s64 s65 s67 s68 s70 s71 s72 s74 s75 s76 s78 s79 s81 s82 s83
 replace s2 := hu _ _ _ (Q00 e_w14 s2)
 try simp only [List.set_cons_zero, List.set_cons_succ] at s2
 replace e_w := e_w.below (Nat.le_refl _) hb
 clear e_w14
 clear hu hs hc hb
 refine Q11 hr (Q05) inferInstance ?_; clear hr; intro a55 w55 x hr hd hs
 revert s2; refine kp1 hs rfl ?_; intro s2
 have s3 := hd 3 rfl (by decide)
 replace e_w := e_w.trans x
 have e_w54 := x; clear hd hs x
 refine wpList_nil ?_
 refine et ?_
 refine wp_ret ?_
 refine Q0f Try.results71 hr tu58 rfl Q4g (Q00 e_w54 s2) e_w ?_
 (rw [hrd]; exact ⟨_, _, rfl, rfl, s3⟩)

def Qch : List Tmp := [2, 3, 4, 5, 6, 7, 8, 9, 10, 11, 12]
theorem Qai {x0 : Value} {w : World} {Sa : Adr} (h0 : (Is (AdrV Sa)) x0 w) (hA : Sa.b.length = 16) :
    Calls Try.prog 27 #[x0] w (Ret (Is (.bool (Q2j Sa))) w) := by
 refine enter Try.func27 rfl Try.ntmps27 (k := 1) rfl (by decide) (fun a0 hr hargs => ?_)
 have s0 := sarg h0 (hargs 0 (by decide))
 clear hargs
 refine sq ?_
 refine Q04 16 [[(0, none)], []] [?b1_0, ?b1_1] Q08 hr ?t1 ?o1 ?_
 case o1 =>
  apply oc0; intro A W hx hf
  exact Q1y [[.bool Sa.six], Sa.b.map Q0t] [1, 16] (Is.conv (o1 s0 hx (r0 hf)) (Q1o Sa).symm) (by simp [*]) hx.size
  apply oc0; intro A W hx hf
  exact Q05
  exact onn
 case t1 => exact inferInstance
 clear hr; intro a2 w2 x hr hd hs
 clear s0
 have s1 := fa ?b1_0 a2 w2 1 (hd 0 1 rfl)
 obtain ⟨g2_1, q2_1⟩ := PxN.at s1; clear s1; have n2_1 := PxS.lt q2_1
 have s1 := q2_1; clear q2_1
 have e_w := x; clear hd hs x
 refine es ?_
 refine sq ?_
 refine Q04 16 [[]] [?b3_0] Q08 hr ?t3 ?o3 ?_
 case o3 =>
  apply oc0; intro A W hx hf
  exact Q05
  exact onn
 case t3 => exact inferInstance
 clear hr; intro a4 w4 x hr hd hs
 revert s1; refine kp1 hs rfl ?_; intro s1
 have s3 := fa ?b3_0 a4 w4 3 (hd 0 3 rfl)
 replace e_w := e_w.trans x
 have e_w2 := x; clear hd hs x
 refine et ?_
 refine wp_block ?_
 refine Q14 (fun n A W => ∃ (i : Nat), n = 16 - i ∧ Fr 16 A ∧ Same Qch a4 A ∧ Ext w W ∧ (4 ≤ i) ∧ (i ≤ 16) ∧ (((Sa.b.drop 4).take (i - 4)).any (fun c => c != 0) = false) ∧ (PxS g2_1 w.heap.size [1, 16] [[.bool Sa.six], Sa.b.map Q0t] 0) (A.eval (.tmp 1)) W ∧ (Is (.int .i64 (i : Int))) (A.eval (.tmp 3)) W) ?start5 ?_
 case start5 =>
  refine ⟨_, 4, rfl, hr, Same.rfl, e_w, (by omega), (by omega), (by simp), ?_, ?_⟩
  · exact (Q00 e_w2 s1)
  · first | exact s3 | exact Is.int s3 (by first | omega | simp) | exact Is.bool s3 (by first | omega | simp)
 intro n5 a5 w5 hI
 clear e_w
 clear e_w2
 clear hr; obtain ⟨i, hn5, hr, hs, e_w, hi4, hi, hz, u1, u3⟩ := hI
 clear s1 s3
 have s1 := u1; clear u1
 have s3 := u3; clear u3
 have m5 := hs; clear hs
 refine sq ?_
 refine sq ?_
 refine Q04 16 [[(3, none)], [(4, some 0)]] [?b6_0, ?b6_1] Q08 hr ?t6 ?o6 ?_
 case o6 =>
  apply oc0; intro A W hx hf
  exact Q01 (a0 := a5) (r0 hf)
  apply oc0; intro A W hx hf
  exact Q1b (p1 s3 hx (q0 ?b6_0 A W 4 hf)) (ec A (.int .i64 16))
  exact onn
 case t6 => exact inferInstance
 clear hr; intro a7 w7 x hr hd hs
 revert s3; revert s1; refine kp2 hs rfl ?_; intro s1 s3
 have s5 := fa ?b6_1 a7 w7 5 (hd 1 5 rfl)
 replace e_w := e_w.trans x
 have e_w5 := x
 replace m5 := m5.tr hs rfl; clear hd hs x
 refine et ?_
 refine wp_cond_split (show _ = _ from s5) (fun hlt => ?_) (fun hlt => ?_)
 ·
  have hlt : i < 16 := by simp at hlt; omega
  refine wp_skip ?_
  refine es ?_
  refine wp_block ?_
  refine sq ?_
  refine Q04 16 [[(3, none)], [(1, none)], [(9, some 1), (8, some 0)], [(10, some 2)], [(11, some 3)]] [?b9_0, ?b9_1, ?b9_2, ?b9_3, ?b9_4] Q08 hr ?t9 ?o9 ?_
  case o9 =>
   apply oc0; intro A W hx hf
   exact Q01 (a0 := a7) (r0 hf)
   apply oc0; intro A W hx hf
   exact Q02 1 tu25 (k := 1) rfl Q61 rfl (o2 s1 e_w5 hx (r0 hf)) rfl
   apply oc0; intro A W hx hf
   exact Q4f (_) tu23 Q0s (q0 ?b9_1 A W 9 hf) (p2 s3 e_w5 hx (q1 ?b9_0 A W 8 hf)) rfl (by first | omega | decide | (simp; done) | (simp; omega))
   apply oc0; intro A W hx hf
   exact Q5n tu5 rfl (q0 ?b9_2 A W 10 hf) rfl (by first | omega | (simp; omega) | (simp [*]; omega))
   apply oc0; intro A W hx hf
   exact Q48 (q0 ?b9_3 A W 11 hf) (ec A (.int .u8 0))
   exact onn
  case t9 => exact inferInstance
  clear hr; intro a10 w10 x hr hd hs
  revert s3; revert s1; refine kp2 hs rfl ?_; intro s1 s3
  clear s5
  have s12 := fa ?b9_4 a10 w10 12 (hd 4 12 rfl)
  replace e_w := e_w.trans x
  replace e_w5 := e_w5.trans x
  replace m5 := m5.tr hs rfl; clear hd hs x
  refine et ?_
  refine wp_cond_split (show _ = _ from s12) (fun hc9 => ?_) (fun hc9 => ?_)
  ·
   skip
   refine sq ?_
   refine Q04 16 [[]] [?b12_0] Q08 hr ?t12 ?o12 ?_
   case o12 =>
    apply oc0; intro A W hx hf
    exact Q05
    exact onn
   case t12 => exact inferInstance
   clear hr; intro a13 w13 x hr hd hs
   clear s1 s3 s12
   have s2 := fa ?b12_0 a13 w13 2 (hd 0 2 rfl)
   replace e_w := e_w.trans x
   clear e_w5
   replace m5 := m5.tr hs rfl; clear hd hs x
   refine et ?_
   refine wp_ret ?_
   refine Q1t ?_
   refine Q0e ?_
   refine Q0e ?_
   refine Q1t ?_
   refine Q0e ?_
   refine Q0r Try.results27 hr e_w ?_
   first | exact Is.bool s2 (Qga hi4 (by omega) hc9).symm | exact Is.bool s2 (Qdn hA hz)
  skip
  refine wp_skip ?_
  refine Q0x ?_
  refine et ?_
  refine Q04 16 [[(3, none)], [(6, some 0)], [(7, some 1)]] [?b14_0, ?b14_1, ?b14_1] Q08 hr ?t14 ?o14 ?_
  case o14 =>
   apply oc0; intro A W hx hf
   exact Q01 (a0 := a10) (r0 hf)
   apply oc0; intro A W hx hf
   exact Q0o (p2 s3 e_w5 hx (q0 ?b14_0 A W 6 hf)) (ec A (.int .i64 1)) (by omega)
   apply oc0; intro A W hx hf
   exact Q03 (q0 ?b14_1 A W 7 hf)
   exact onn
  case t14 => exact inferInstance
  clear hr; intro a15 w15 x hr hd hs
  revert s1; refine kp1 hs rfl ?_; intro s1
  clear s3 s12
  have s3 := fa ?b14_1 a15 w15 3 (hd 2 3 rfl)
  replace e_w := e_w.trans x
  replace e_w5 := e_w5.trans x
  replace m5 := m5.tr hs rfl; clear hd hs x
  refine et ?_
  refine ⟨(fun (i : Nat) => 16 - i) (i + 1), ?_, ?_⟩
  · (try dsimp only); omega
  refine ⟨i + 1, rfl, hr, m5, e_w, (by omega), (by omega), (by exact Qhc hi4 (by omega) hz hc9), ?_, ?_⟩
  · exact (Q00 e_w5 s1)
  · first | exact s3 | exact Is.int s3 (by first | omega | simp) | exact Is.bool s3 (by first | omega | simp)
 have hlt : i = 16 := by simp at hlt; omega
 subst hlt
 refine wp_exit ?_
 refine Q0g ?_
 refine Q0g ?_
 refine Q1a ?_
 refine es ?_
 refine Q04 16 [[(1, none)], [(13, some 0)], [(14, some 1)], [(15, some 2)]] [?b16_0, ?b16_1, ?b16_2, ?b16_2] Q08 hr ?t16 ?o16 ?_
 case o16 =>
  apply oc0; intro A W hx hf
  exact Q02 0 tu25 (k := 0) rfl Q4r rfl (o2 s1 e_w5 hx (r0 hf)) rfl
  apply oc0; intro A W hx hf
  exact Q0a tu4 rfl (q0 ?b16_0 A W 13 hf) rfl
  apply oc0; intro A W hx hf
  exact Q43 (q0 ?b16_1 A W 14 hf)
  apply oc0; intro A W hx hf
  exact Q03 (q0 ?b16_2 A W 15 hf)
  exact onn
 case t16 => exact inferInstance
 clear hr; intro a17 w17 x hr hd hs
 clear s1 s3 s5
 have s2 := fa ?b16_2 a17 w17 2 (hd 3 2 rfl)
 replace e_w := e_w.trans x
 clear e_w5; clear hd hs x
 refine et ?_
 refine wp_ret ?_
 refine Q0r Try.results27 hr e_w ?_
 first | exact Is.bool s2 (Qga hi4 (by omega) hc9).symm | exact Is.bool s2 (Qdn hA hz)

def Qaj : List Tmp := [35, 36]
def Qex : List Tmp := [3, 4, 37, 38, 39, 40, 41, 42, 43, 44, 45, 46, 47, 48]
def Qey : List Tmp := [3, 5, 49, 50, 51, 52, 53, 54, 55, 56, 57, 58, 59, 60]
theorem Qok {x0 : Value} {w : World} {H : FourL} {B : Nat} (h0 : (Is (Qjg H)) x0 w) (hH : Q3b H) (hr9 : Q46 H = true) (hB : B ≤ w.heap.size) :
    Calls Try.prog 35 #[x0] w (Ret (OwnB B 5 (Q4k H)) w) := by
 have hs16 := hH.1
 have hd16 := hH.2
 obtain ⟨k1, k2, k3, k4, k5, k6, k7⟩ := Q6h hr9
 refine enter Try.func35 rfl Try.ntmps35 (k := 1) rfl (by decide) (fun a0 hr hargs => ?_)
 have s0 := sarg h0 (hargs 0 (by decide))
 clear hargs
 refine sq ?_
 refine Q04 74 [[(0, none)], []] [?b1_0, ?b1_1] Q08 hr ?t1 ?o1 ?_
 case o1 =>
  apply oc0; intro A W hx hf
  exact Q1y (Q5d H) [1, 1, 1, 1, 1, 1, 1, 1, 1, 16, 1, 16] (o1 s0 hx (r0 hf)) (by exact Qa7 hH) hx.size
  apply oc0; intro A W hx hf
  exact Q1l (OwnBA 0 w.heap.size 5 []) (fun _ => Q2o)
  exact onn
 case t1 => exact inferInstance
 clear hr; intro a2 w2 x hr hd hs
 clear s0
 have s1 := fa ?b1_0 a2 w2 1 (hd 0 1 rfl)
 obtain ⟨g2_1, q2_1⟩ := PxN.at s1; clear s1; have n2_1 := PxS.lt q2_1
 have s1 := q2_1; clear q2_1
 have e_w := x; clear hd hs x
 refine es ?_
 refine Q04 74 [[(1, none)], [(7, some 0)], [(8, some 1)], [(1, none)], [(10, some 3)], [(11, some 4)], [(12, some 5)], [(1, none)], [(14, some 7)], [(15, some 8)], [(16, some 9)], [(1, none)], [(18, some 11)], [(19, some 12)], [(20, some 13)], [(1, none)], [(22, some 15)], [(23, some 16)], [(24, some 17)], [(1, none)], [(26, some 19)], [(27, some 20)], [(1, none)], [(29, some 22)], [(30, some 23)], [(9, some 2), (13, some 6), (17, some 10), (21, some 14), (25, some 18), (28, some 21), (31, some 24)], [(32, some 25)]] [?b3_0, ?b3_1, ?b3_2, ?b3_3, ?b3_4, ?b3_5, ?b3_6, ?b3_7, ?b3_8, ?b3_9, ?b3_10, ?b3_11, ?b3_12, ?b3_13, ?b3_14, ?b3_15, ?b3_16, ?b3_17, ?b3_18, ?b3_19, ?b3_20, ?b3_21, ?b3_22, ?b3_23, ?b3_24, ?b3_25, ?b3_25] Q08 hr ?t3 ?o3 ?_
 case o3 =>
  apply oc0; intro A W hx hf
  exact Q02 2 tu58 (k := 2) rfl Q0m rfl (o1 s1 hx (r0 hf)) rfl
  apply oc0; intro A W hx hf
  exact Q0a tu3 rfl (q0 ?b3_0 A W 7 hf) rfl
  apply oc0; intro A W hx hf
  exact Q15 tu3 tu5 (q0 ?b3_1 A W 8 hf)
  apply oc0; intro A W hx hf
  exact Q02 1 tu58 (k := 1) rfl Q0m rfl (o1 s1 hx (r0 hf)) rfl
  apply oc0; intro A W hx hf
  exact Q0a tu3 rfl (q0 ?b3_3 A W 10 hf) rfl
  apply oc0; intro A W hx hf
  exact Q4u (by decide) (q0 ?b3_4 A W 11 hf) (ec A (.int .i64 256))
  apply oc0; intro A W hx hf
  exact Q15 tu3 tu5 (q0 ?b3_5 A W 12 hf)
  apply oc0; intro A W hx hf
  exact Q02 1 tu58 (k := 1) rfl Q0m rfl (o1 s1 hx (r0 hf)) rfl
  apply oc0; intro A W hx hf
  exact Q0a tu3 rfl (q0 ?b3_7 A W 14 hf) rfl
  apply oc0; intro A W hx hf
  exact Q4v (by decide) (q0 ?b3_8 A W 15 hf) (ec A (.int .i64 256))
  apply oc0; intro A W hx hf
  exact Q15 tu3 tu5 (q0 ?b3_9 A W 16 hf)
  apply oc0; intro A W hx hf
  exact Q02 3 tu58 (k := 3) rfl Q0m rfl (o1 s1 hx (r0 hf)) rfl
  apply oc0; intro A W hx hf
  exact Q0a tu3 rfl (q0 ?b3_11 A W 18 hf) rfl
  apply oc0; intro A W hx hf
  exact Q4u (by decide) (q0 ?b3_12 A W 19 hf) (ec A (.int .i64 256))
  apply oc0; intro A W hx hf
  exact Q15 tu3 tu5 (q0 ?b3_13 A W 20 hf)
  apply oc0; intro A W hx hf
  exact Q02 3 tu58 (k := 3) rfl Q0m rfl (o1 s1 hx (r0 hf)) rfl
  apply oc0; intro A W hx hf
  exact Q0a tu3 rfl (q0 ?b3_15 A W 22 hf) rfl
  apply oc0; intro A W hx hf
  exact Q4v (by decide) (q0 ?b3_16 A W 23 hf) (ec A (.int .i64 256))
  apply oc0; intro A W hx hf
  exact Q15 tu3 tu5 (q0 ?b3_17 A W 24 hf)
  apply oc0; intro A W hx hf
  exact Q02 6 tu58 (k := 6) rfl Q0m rfl (o1 s1 hx (r0 hf)) rfl
  apply oc0; intro A W hx hf
  exact Q0a tu3 rfl (q0 ?b3_19 A W 26 hf) rfl
  apply oc0; intro A W hx hf
  exact Q15 tu3 tu5 (q0 ?b3_20 A W 27 hf)
  apply oc0; intro A W hx hf
  exact Q02 7 tu58 (k := 7) rfl Q0m rfl (o1 s1 hx (r0 hf)) rfl
  apply oc0; intro A W hx hf
  exact Q0a tu3 rfl (q0 ?b3_22 A W 29 hf) rfl
  apply oc0; intro A W hx hf
  exact Q15 tu3 tu5 (q0 ?b3_23 A W 30 hf)
  apply oc0; intro A W hx hf
  exact Q3c [(.const (.int .u8 69)), (.tmp 9), (.tmp 13), (.tmp 17), (.tmp 21), (.tmp 25), (.const (.int .u8 0)), (.const (.int .u8 0)), (.tmp 28), (.tmp 31), (.const (.int .u8 0)), (.const (.int .u8 0))] [_, _, _, _, _, _, _, _, _, _, _, _] tu22 Q0s Q45 rfl rfl (by decide) hx.size (PartsOk.cons (show ByteIs 69 _ _ from rfl) (PartsOk.cons (q0 ?b3_2 A W 9 hf) (PartsOk.cons (q1 ?b3_6 A W 13 hf) (PartsOk.cons (q2 ?b3_10 A W 17 hf) (PartsOk.cons (q3 ?b3_14 A W 21 hf) (PartsOk.cons (q4 ?b3_18 A W 25 hf) (PartsOk.cons (show ByteIs 0 _ _ from rfl) (PartsOk.cons (show ByteIs 0 _ _ from rfl) (PartsOk.cons (q5 ?b3_21 A W 28 hf) (PartsOk.cons (q6 ?b3_24 A W 31 hf) (PartsOk.cons (show ByteIs 0 _ _ from rfl) (PartsOk.cons (show ByteIs 0 _ _ from rfl) (PartsOk.nil)))))))))))))
  apply oc0; intro A W hx hf
  exact Q03 (q0 ?b3_25 A W 32 hf)
  exact onn
 case t3 => repeat (first | exact Q9h | refine Q7e ?_)
 clear hr; intro a4 w4 x hr hd hs
 have z_w_w2 := e_w.size
 have l4_1 := PxS.lt s1
 revert s1; refine kp1 hs rfl ?_; intro s1
 have s3 := fa ?b3_25 a4 w4 3 (hd 26 3 rfl)
 obtain ⟨g4_3, q4_3⟩ := OwnB.at s3; clear s3; have n4_3 := OwnBA.lt q4_3
 replace q4_3 := OwnBA.mono q4_3 e_w.size
 have s3 := q4_3; clear q4_3
 replace e_w := e_w.trans x
 have e_w2 := x; clear hd hs x
 replace s3 := OwnBA.cast s3 (show _ = rB12 H from by unfold rB12; rw [Q52 (n := H.total) (by omega), Q53 (n := H.total) (by omega), Q52 (n := H.id) (by omega), Q53 (n := H.id) (by omega)])
 refine es ?_
 refine sq ?_
 refine Q04 74 [[(1, none)], [(33, some 0)]] [?b5_0, ?b5_1] Q08 hr ?t5 ?o5 ?_
 case o5 =>
  apply oc0; intro A W hx hf
  exact Q02 5 tu58 (k := 5) rfl Q4r rfl (o2 s1 e_w2 hx (r0 hf)) rfl
  apply oc0; intro A W hx hf
  exact Q0a tu4 rfl (q0 ?b5_0 A W 33 hf) rfl
  exact onn
 case t5 => exact inferInstance
 clear hr; intro a6 w6 x hr hd hs
 revert s3; revert s1; refine kp2 hs rfl ?_; intro s1 s3
 have s34 := fa ?b5_1 a6 w6 34 (hd 1 34 rfl)
 replace e_w := e_w.trans x
 replace e_w2 := e_w2.trans x
 have e_w4 := x; clear hd hs x
 refine et ?_
 refine Q33 (fun A W => ∃ (β : Nat), Fr 74 A ∧ Same Qaj a6 A ∧ Ext w W ∧ (g2_1 ≠ β) ∧ (PxS g2_1 w.heap.size [1, 1, 1, 1, 1, 1, 1, 1, 1, 16, 1, 16] (Q5d H) 0) (A.eval (.tmp 1)) W ∧ (OwnBA β w.heap.size 5 (Qaz H)) (A.eval (.tmp 3)) W) ?cut7 ?_
 case cut7 =>
  have m7 : Same Qaj a6 a6 := Same.rfl
  refine wp_cond_split (show _ = _ from s34) (fun hk => ?_) (fun hk => ?_)
  ·
   skip
   refine Q06 (l := [_, _]) (rest := [_]) 74 [[(3, none)], [(35, some 0)]] [?b9_0, ?b9_1] hr ?t9 ?o9 ?_
   case o9 =>
    apply oc0; intro A W hx hf
    exact Q01 (a0 := a6) (r0 hf)
    apply oc0; intro A W hx hf
    exact Q34 (6) tu22 Q0s (p2 s3 e_w4 hx (q0 ?b9_0 A W 35 hf)) (ec A (.int .i64 6)) (by rw [Qlh]; omega)
    exact onn
   case t9 => exact inferInstance
   clear hr; intro a10 w10 x hr hd hs
   revert s3; revert s1; refine kp2 hs rfl ?_; intro s1 s3
   clear s34
   have s36 := fa ?b9_1 a10 w10 36 (hd 1 36 rfl)
   replace e_w := e_w.trans x
   replace e_w2 := e_w2.trans x
   replace e_w4 := e_w4.trans x
   replace m7 := m7.tr hs rfl; clear hd hs x
   have z11 := EpA.lt s36
   have l11 := (show (g4_3 = 0 ∨ w.heap.size < g4_3) ∧ True from ⟨by omega, trivial⟩)
   have l11_1 := PxS.lt (Q00 e_w2 s1)
   refine Q35 hr Q0s s36 (show ByteIs 64 _ _ from rfl) ?_; clear hr; intro a11 w11 hc hu hr hs
   have hb : Below w.heap.size w10 w11 := hc.below e_w.size l11.1
   revert s3; revert s1; refine kp2 hs rfl ?_; intro s1 s3
   clear s36
   replace s1 := PxS.other (Q00 e_w2 s1) hc (by omega)
   replace s3 := hu _ _ _ (Q00 e_w4 s3)
   replace e_w := e_w.below (Nat.le_refl _) hb
   clear e_w2
   clear e_w4
   replace m7 := m7.tr hs rfl
   clear hu hs hc hb
   refine wpList_nil ?_
   refine et ?_
   refine ⟨g4_3, hr, m7, e_w, (by first | assumption | omega), ?_, ?_⟩
   · exact s1
   · first | exact OwnBA.cast s3 (Qdp hk) | exact OwnBA.cast s3 (Qgb hk)
  skip
  refine wp_skip ?_
  refine et ?_
  refine ⟨g4_3, hr, m7, e_w, (by first | assumption | omega), ?_, ?_⟩
  · exact (Q00 e_w2 s1)
  · first | exact OwnBA.cast (Q00 e_w4 s3) (Qdp hk) | exact OwnBA.cast (Q00 e_w4 s3) (Qgb hk)
 intro a7 w7 hI
 clear e_w
 clear e_w2
 clear e_w4
 clear hr; obtain ⟨β, hr, hs, e_w, ne1, u1, u3⟩ := hI
 clear s1 s3 s34
 have s1 := u1; clear u1
 have s3 := u3; clear u3
 clear hs
 refine sq ?_
 refine sq ?_
 refine Q04 74 [[]] [?b12_0] Q08 hr ?t12 ?o12 ?_
 case o12 =>
  apply oc0; intro A W hx hf
  exact Q05
  exact onn
 case t12 => exact inferInstance
 clear hr; intro a13 w13 x hr hd hs
 revert s3; revert s1; refine kp2 hs rfl ?_; intro s1 s3
 have s4 := fa ?b12_0 a13 w13 4 (hd 0 4 rfl)
 replace e_w := e_w.trans x
 have e_w7 := x; clear hd hs x
 refine et ?_
 refine wp_block ?_
 refine Q14 (fun n A W => ∃ (i β : Nat), n = 4 - i ∧ Fr 74 A ∧ Same Qex a13 A ∧ Ext w W ∧ (i ≤ 4) ∧ (g2_1 ≠ β) ∧ (PxS g2_1 w.heap.size [1, 1, 1, 1, 1, 1, 1, 1, 1, 16, 1, 16] (Q5d H) 0) (A.eval (.tmp 1)) W ∧ (OwnBA β w.heap.size 5 (Qaz H ++ H.src.b.take i)) (A.eval (.tmp 3)) W ∧ (Is (.int .i64 (i : Int))) (A.eval (.tmp 4)) W) ?start14 ?_
 case start14 =>
  refine ⟨_, 0, β, rfl, hr, Same.rfl, e_w, (by first | assumption | omega), (by first | assumption | omega), ?_, ?_, ?_⟩
  · exact (Q00 e_w7 s1)
  · exact OwnBA.cast (Q00 e_w7 s3) (by simp)
  · first | exact s4 | exact Is.int s4 (by first | omega | simp) | exact Is.bool s4 (by first | omega | simp)
 intro n14 a14 w14 hI
 clear e_w
 clear e_w7
 clear hr; obtain ⟨i, β, hn14, hr, hs, e_w, hi, ne2, u1, u3, u4⟩ := hI
 clear s1 s3 s4
 have s1 := u1; clear u1
 have s3 := u3; clear u3
 have s4 := u4; clear u4
 have m14 := hs; clear hs
 refine sq ?_
 refine sq ?_
 refine Q04 74 [[(4, none)], [(37, some 0)]] [?b15_0, ?b15_1] Q08 hr ?t15 ?o15 ?_
 case o15 =>
  apply oc0; intro A W hx hf
  exact Q01 (a0 := a14) (r0 hf)
  apply oc0; intro A W hx hf
  exact Q1b (p1 s4 hx (q0 ?b15_0 A W 37 hf)) (ec A (.int .i64 4))
  exact onn
 case t15 => exact inferInstance
 clear hr; intro a16 w16 x hr hd hs
 revert s4; revert s3; revert s1; refine kp3 hs rfl ?_; intro s1 s3 s4
 have s38 := fa ?b15_1 a16 w16 38 (hd 1 38 rfl)
 replace e_w := e_w.trans x
 have e_w14 := x
 replace m14 := m14.tr hs rfl; clear hd hs x
 refine et ?_
 refine wp_cond_split (show _ = _ from s38) (fun hlt => ?_) (fun hlt => ?_)
 ·
  have hlt : i < 4 := by simp at hlt; omega
  refine wp_skip ?_
  refine es ?_
  refine wp_block ?_
  refine Q06 (l := [_, _, _, _, _, _, _]) (rest := [_, _]) 74 [[(3, none)], [(4, none)], [(1, none)], [(43, some 2)], [(44, some 3), (42, some 1)], [(45, some 4)], [(46, some 5)]] [?b18_0, ?b18_1, ?b18_2, ?b18_3, ?b18_4, ?b18_5, ?b18_6] hr ?t18 ?o18 ?_
  case o18 =>
   apply oc0; intro A W hx hf
   exact Q01 (a0 := a16) (r0 hf)
   apply oc0; intro A W hx hf
   exact Q01 (a0 := a16) (r0 hf)
   apply oc0; intro A W hx hf
   exact Q02 8 tu58 (k := 8) rfl Q0z rfl (o2 s1 e_w14 hx (r0 hf)) rfl
   apply oc0; intro A W hx hf
   exact Q02 9 tu25 (k := 1) rfl Q61 rfl (q0 ?b18_2 A W 43 hf) rfl
   apply oc0; intro A W hx hf
   exact Q4f (_) tu23 Q0s (q0 ?b18_3 A W 44 hf) (p2 s4 e_w14 hx (q1 ?b18_1 A W 42 hf)) rfl (by first | omega | decide | (simp; done) | (simp; omega))
   apply oc0; intro A W hx hf
   exact Q5n tu5 rfl (q0 ?b18_4 A W 45 hf) rfl (by omega)
   apply oc0; intro A W hx hf
   exact Q21 [(.tmp 46)] [_] tu22 Q0s Q45 rfl rfl (by decide) (PartsOk.cons (q0 ?b18_5 A W 46 hf) (PartsOk.nil))
   exact onn
  case t18 => exact inferInstance
  clear hr; intro a19 w19 x hr hd hs
  have u41 := mv s3 (fa ?b18_0 a19 w19 41 (hd 0 41 rfl))
  revert s4; revert s3; revert s1; refine kp3 hs rfl ?_; intro s1 s3 s4
  clear s38
  have s41 := u41; clear u41
  have s47 := fa ?b18_6 a19 w19 47 (hd 6 47 rfl)
  replace e_w := e_w.trans x
  replace e_w14 := e_w14.trans x
  replace m14 := m14.tr hs rfl; clear hd hs x
  have l20 := OwnBA.lt (Q00 e_w14 s41)
  have l20_1 := PxS.lt (Q00 e_w14 s1)
  refine Q0u hr (by decide) tu22 Q3u rfl (Q00 e_w14 s41) s47 e_w.size (by simp [Qdo]; omega) ?_; clear hr; intro g20 a20 w20 hg20 hc hr hd hs
  have hb := hc.below e_w.size l20.1
  revert s4; revert s1; refine kp2 hs rfl ?_; intro s1 s4
  clear s3 s41 s47
  replace s1 := PxS.other (Q00 e_w14 s1) hc (by omega)
  have s48 := hd
  replace e_w := e_w.below (Nat.le_refl _) hb
  clear e_w14
  replace s4 := anyw (w2 := w20) s4
  replace m14 := m14.tr hs rfl
  clear hd hs hb hc
  refine Q11 hr (Q03 s48) inferInstance ?_; clear hr; intro a21 w21 x hr hd hs
  revert s4; revert s1; refine kp2 hs rfl ?_; intro s1 s4
  clear s48
  have s3 := hd 3 rfl (by decide)
  replace e_w := e_w.trans x
  have e_w20 := x
  replace m14 := m14.tr hs rfl; clear hd hs x
  refine wpList_nil ?_
  refine Q0x ?_
  refine et ?_
  refine Q04 74 [[(4, none)], [(39, some 0)], [(40, some 1)]] [?b22_0, ?b22_1, ?b22_1] Q08 hr ?t22 ?o22 ?_
  case o22 =>
   apply oc0; intro A W hx hf
   exact Q01 (a0 := a21) (r0 hf)
   apply oc0; intro A W hx hf
   exact Q0o (p2 s4 e_w20 hx (q0 ?b22_0 A W 39 hf)) (ec A (.int .i64 1)) (by omega)
   apply oc0; intro A W hx hf
   exact Q03 (q0 ?b22_1 A W 40 hf)
   exact onn
  case t22 => exact inferInstance
  clear hr; intro a23 w23 x hr hd hs
  revert s3; revert s1; refine kp2 hs rfl ?_; intro s1 s3
  clear s4
  have s4 := fa ?b22_1 a23 w23 4 (hd 2 4 rfl)
  replace e_w := e_w.trans x
  replace e_w20 := e_w20.trans x
  have e_w21 := x
  replace m14 := m14.tr hs rfl; clear hd hs x
  refine et ?_
  refine ⟨(fun (i β : Nat) => 4 - i) (i + 1) (0), ?_, ?_⟩
  · (try dsimp only); omega
  refine ⟨i + 1, g20, rfl, hr, m14, e_w, (by first | assumption | omega), (by first | assumption | omega), ?_, ?_, ?_⟩
  · exact (Q00 e_w20 s1)
  · exact OwnBA.cast (Q00 e_w21 s3) (by rw [Q3n (l := H.src.b) (by omega), List.append_assoc])
  · first | exact s4 | exact Is.int s4 (by first | omega | simp) | exact Is.bool s4 (by first | omega | simp)
 have hlt : i = 4 := by simp at hlt; omega
 subst hlt
 refine wp_exit ?_
 refine Q0g ?_
 refine Q0g ?_
 refine Q1a ?_
 refine es ?_
 refine sq ?_
 refine Q04 74 [[]] [?b24_0] Q08 hr ?t24 ?o24 ?_
 case o24 =>
  apply oc0; intro A W hx hf
  exact Q05
  exact onn
 case t24 => exact inferInstance
 clear hr; intro a25 w25 x hr hd hs
 revert s3; revert s1; refine kp2 hs rfl ?_; intro s1 s3
 clear s4 s38
 have s5 := fa ?b24_0 a25 w25 5 (hd 0 5 rfl)
 replace e_w := e_w.trans x
 replace e_w14 := e_w14.trans x; clear hd hs x
 refine et ?_
 refine wp_block ?_
 refine Q14 (fun n A W => ∃ (j β : Nat), n = 4 - j ∧ Fr 74 A ∧ Same Qey a25 A ∧ Ext w W ∧ (j ≤ 4) ∧ (g2_1 ≠ β) ∧ (PxS g2_1 w.heap.size [1, 1, 1, 1, 1, 1, 1, 1, 1, 16, 1, 16] (Q5d H) 0) (A.eval (.tmp 1)) W ∧ (OwnBA β w.heap.size 5 (Qaz H ++ H.src.b.take 4 ++ H.dst.b.take j)) (A.eval (.tmp 3)) W ∧ (Is (.int .i64 (j : Int))) (A.eval (.tmp 5)) W) ?start26 ?_
 case start26 =>
  refine ⟨_, 0, β, rfl, hr, Same.rfl, e_w, (by first | assumption | omega), (by first | assumption | omega), ?_, ?_, ?_⟩
  · exact (Q00 e_w14 s1)
  · exact OwnBA.cast (Q00 e_w14 s3) (by simp)
  · first | exact s5 | exact Is.int s5 (by first | omega | simp) | exact Is.bool s5 (by first | omega | simp)
 intro n26 a26 w26 hI
 clear e_w
 clear e_w14
 clear hr; obtain ⟨j, β, hn26, hr, hs, e_w, hj, ne3, u1, u3, u5⟩ := hI
 clear s1 s3 s5
 have s1 := u1; clear u1
 have s3 := u3; clear u3
 have s5 := u5; clear u5
 have m26 := hs; clear hs
 refine sq ?_
 refine sq ?_
 refine Q04 74 [[(5, none)], [(49, some 0)]] [?b27_0, ?b27_1] Q08 hr ?t27 ?o27 ?_
 case o27 =>
  apply oc0; intro A W hx hf
  exact Q01 (a0 := a26) (r0 hf)
  apply oc0; intro A W hx hf
  exact Q1b (p1 s5 hx (q0 ?b27_0 A W 49 hf)) (ec A (.int .i64 4))
  exact onn
 case t27 => exact inferInstance
 clear hr; intro a28 w28 x hr hd hs
 revert s5; revert s3; revert s1; refine kp3 hs rfl ?_; intro s1 s3 s5
 have s50 := fa ?b27_1 a28 w28 50 (hd 1 50 rfl)
 replace e_w := e_w.trans x
 have e_w26 := x
 replace m26 := m26.tr hs rfl; clear hd hs x
 refine et ?_
 refine wp_cond_split (show _ = _ from s50) (fun hlt => ?_) (fun hlt => ?_)
 ·
  have hlt : j < 4 := by simp at hlt; omega
  refine wp_skip ?_
  refine es ?_
  refine wp_block ?_
  refine Q06 (l := [_, _, _, _, _, _, _]) (rest := [_, _]) 74 [[(3, none)], [(5, none)], [(1, none)], [(55, some 2)], [(56, some 3), (54, some 1)], [(57, some 4)], [(58, some 5)]] [?b30_0, ?b30_1, ?b30_2, ?b30_3, ?b30_4, ?b30_5, ?b30_6] hr ?t30 ?o30 ?_
  case o30 =>
   apply oc0; intro A W hx hf
   exact Q01 (a0 := a28) (r0 hf)
   apply oc0; intro A W hx hf
   exact Q01 (a0 := a28) (r0 hf)
   apply oc0; intro A W hx hf
   exact Q02 10 tu58 (k := 9) rfl Q0z rfl (o2 s1 e_w26 hx (r0 hf)) rfl
   apply oc0; intro A W hx hf
   exact Q02 11 tu25 (k := 1) rfl Q61 rfl (q0 ?b30_2 A W 55 hf) rfl
   apply oc0; intro A W hx hf
   exact Q4f (_) tu23 Q0s (q0 ?b30_3 A W 56 hf) (p2 s5 e_w26 hx (q1 ?b30_1 A W 54 hf)) rfl (by first | omega | decide | (simp; done) | (simp; omega))
   apply oc0; intro A W hx hf
   exact Q5n tu5 rfl (q0 ?b30_4 A W 57 hf) rfl (by omega)
   apply oc0; intro A W hx hf
   exact Q21 [(.tmp 58)] [_] tu22 Q0s Q45 rfl rfl (by decide) (PartsOk.cons (q0 ?b30_5 A W 58 hf) (PartsOk.nil))
   exact onn
  case t30 => exact inferInstance
  clear hr; intro a31 w31 x hr hd hs
  have u53 := mv s3 (fa ?b30_0 a31 w31 53 (hd 0 53 rfl))
  revert s5; revert s3; revert s1; refine kp3 hs rfl ?_; intro s1 s3 s5
  clear s50
  have s53 := u53; clear u53
  have s59 := fa ?b30_6 a31 w31 59 (hd 6 59 rfl)
  replace e_w := e_w.trans x
  replace e_w26 := e_w26.trans x
  replace m26 := m26.tr hs rfl; clear hd hs x
  have l32 := OwnBA.lt (Q00 e_w26 s53)
  have l32_1 := PxS.lt (Q00 e_w26 s1)
  refine Q0u hr (by decide) tu22 Q3u rfl (Q00 e_w26 s53) s59 e_w.size (by simp [Qdo]; omega) ?_; clear hr; intro g32 a32 w32 hg32 hc hr hd hs
  have hb := hc.below e_w.size l32.1
  revert s5; revert s1; refine kp2 hs rfl ?_; intro s1 s5
  clear s3 s53 s59
  replace s1 := PxS.other (Q00 e_w26 s1) hc (by omega)
  have s60 := hd
  replace e_w := e_w.below (Nat.le_refl _) hb
  clear e_w26
  replace s5 := anyw (w2 := w32) s5
  replace m26 := m26.tr hs rfl
  clear hd hs hb hc
  refine Q11 hr (Q03 s60) inferInstance ?_; clear hr; intro a33 w33 x hr hd hs
  revert s5; revert s1; refine kp2 hs rfl ?_; intro s1 s5
  clear s60
  have s3 := hd 3 rfl (by decide)
  replace e_w := e_w.trans x
  have e_w32 := x
  replace m26 := m26.tr hs rfl; clear hd hs x
  refine wpList_nil ?_
  refine Q0x ?_
  refine et ?_
  refine Q04 74 [[(5, none)], [(51, some 0)], [(52, some 1)]] [?b34_0, ?b34_1, ?b34_1] Q08 hr ?t34 ?o34 ?_
  case o34 =>
   apply oc0; intro A W hx hf
   exact Q01 (a0 := a33) (r0 hf)
   apply oc0; intro A W hx hf
   exact Q0o (p2 s5 e_w32 hx (q0 ?b34_0 A W 51 hf)) (ec A (.int .i64 1)) (by omega)
   apply oc0; intro A W hx hf
   exact Q03 (q0 ?b34_1 A W 52 hf)
   exact onn
  case t34 => exact inferInstance
  clear hr; intro a35 w35 x hr hd hs
  revert s3; revert s1; refine kp2 hs rfl ?_; intro s1 s3
  clear s5
  have s5 := fa ?b34_1 a35 w35 5 (hd 2 5 rfl)
  replace e_w := e_w.trans x
  replace e_w32 := e_w32.trans x
  have e_w33 := x
  replace m26 := m26.tr hs rfl; clear hd hs x
  refine et ?_
  refine ⟨(fun (j β : Nat) => 4 - j) (j + 1) (0), ?_, ?_⟩
  · (try dsimp only); omega
  refine ⟨j + 1, g32, rfl, hr, m26, e_w, (by first | assumption | omega), (by first | assumption | omega), ?_, ?_, ?_⟩
  · exact (Q00 e_w32 s1)
  · exact OwnBA.cast (Q00 e_w33 s3) (by rw [Q3n (l := H.dst.b) (by omega), ← List.append_assoc])
  · first | exact s5 | exact Is.int s5 (by first | omega | simp) | exact Is.bool s5 (by first | omega | simp)
 have hlt : j = 4 := by simp at hlt; omega
 subst hlt
 replace s3 := OwnBA.cast s3 (rB20 H)
 have hcb := Qdq (Q78 H)
 have hbl := Qjk hH
 refine wp_exit ?_
 refine Q0g ?_
 refine Q0g ?_
 refine Q1a ?_
 refine es ?_
 refine Q04 74 [[(3, none)], [(61, some 0)], [(62, some 1)]] [?b36_0, ?b36_1, ?b36_1] Q08 hr ?t36 ?o36 ?_
 case o36 =>
  apply oc0; intro A W hx hf
  exact Q01 (a0 := a28) (r0 hf)
  apply oc0; intro A W hx hf
  exact Q18 Qmr (Qn8 (OwnBA.bs (p2 s3 e_w26 hx (q0 ?b36_0 A W 61 hf))) (by omega))
  apply oc0; intro A W hx hf
  exact Q03 (q0 ?b36_1 A W 62 hf)
  exact onn
 case t36 => exact inferInstance
 clear hr; intro a37 w37 x hr hd hs
 revert s3; refine kp1 hs rfl ?_; intro s3
 clear s1 s5 s50
 have s6 := fa ?b36_1 a37 w37 6 (hd 2 6 rfl)
 replace e_w := e_w.trans x
 replace e_w26 := e_w26.trans x; clear hd hs x
 refine es ?_
 refine Q06 (l := [_, _, _, _, _]) (rest := [_]) 74 [[(3, none)], [(6, none)], [(64, some 1)], [(65, some 2)], [(63, some 0)]] [?b38_0, ?b38_1, ?b38_2, ?b38_3, ?b38_4] hr ?t38 ?o38 ?_
 case o38 =>
  apply oc0; intro A W hx hf
  exact Q01 (a0 := a37) (r0 hf)
  apply oc0; intro A W hx hf
  exact Q01 (a0 := a37) (r0 hf)
  apply oc0; intro A W hx hf
  exact Q4u (by decide) (p1 s6 hx (q0 ?b38_1 A W 64 hf)) (ec A (.int .i64 256))
  apply oc0; intro A W hx hf
  exact Q15 tu3 tu5 (q0 ?b38_2 A W 65 hf)
  apply oc0; intro A W hx hf
  exact Q34 (10) tu22 Q0s (p2 s3 e_w26 hx (q0 ?b38_0 A W 63 hf)) (ec A (.int .i64 10)) (by omega)
  exact onn
 case t38 => exact inferInstance
 clear hr; intro a39 w39 x hr hd hs
 revert s6; revert s3; refine kp2 hs rfl ?_; intro s3 s6
 have s66 := fa ?b38_3 a39 w39 66 (hd 3 66 rfl)
 have s67 := fa ?b38_4 a39 w39 67 (hd 4 67 rfl)
 replace e_w := e_w.trans x
 replace e_w26 := e_w26.trans x
 have e_w37 := x; clear hd hs x
 have z40 := EpA.lt s67
 have l40 := (show (β = 0 ∨ w.heap.size < β) ∧ True from ⟨by omega, trivial⟩)
 refine Q35 hr Q0s s67 s66 ?_; clear hr; intro a40 w40 hc hu hr hs
 have hb : Below w.heap.size w39 w40 := hc.below e_w.size l40.1
 revert s6; revert s3; refine kp2 hs rfl ?_; intro s3 s6
 clear s66 s67
 replace s3 := hu _ _ _ (Q00 e_w26 s3)
 replace e_w := e_w.below (Nat.le_refl _) hb
 clear e_w26
 clear e_w37
 replace s6 := anyw (w2 := w40) s6
 clear hu hs hc hb
 refine wpList_nil ?_
 refine es ?_
 refine Q06 (l := [_, _, _, _, _]) (rest := [_]) 74 [[(3, none)], [(6, none)], [(69, some 1)], [(70, some 2)], [(68, some 0)]] [?b41_0, ?b41_1, ?b41_2, ?b41_3, ?b41_4] hr ?t41 ?o41 ?_
 case o41 =>
  apply oc0; intro A W hx hf
  exact Q01 (a0 := a40) (r0 hf)
  apply oc0; intro A W hx hf
  exact Q01 (a0 := a40) (r0 hf)
  apply oc0; intro A W hx hf
  exact Q4v (by decide) (p1 s6 hx (q0 ?b41_1 A W 69 hf)) (ec A (.int .i64 256))
  apply oc0; intro A W hx hf
  exact Q15 tu3 tu5 (q0 ?b41_2 A W 70 hf)
  apply oc0; intro A W hx hf
  exact Q34 (11) tu22 Q0s (p1 s3 hx (q0 ?b41_0 A W 68 hf)) (ec A (.int .i64 11)) (by simp; omega)
  exact onn
 case t41 => exact inferInstance
 clear hr; intro a42 w42 x hr hd hs
 revert s3; refine kp1 hs rfl ?_; intro s3
 clear s6
 have s71 := fa ?b41_3 a42 w42 71 (hd 3 71 rfl)
 have s72 := fa ?b41_4 a42 w42 72 (hd 4 72 rfl)
 replace e_w := e_w.trans x
 have e_w40 := x; clear hd hs x
 have z43 := EpA.lt s72
 have l43 := (show (β = 0 ∨ w.heap.size < β) ∧ True from ⟨by omega, trivial⟩)
 refine Q35 hr Q0s s72 s71 ?_; clear hr; intro a43 w43 hc hu hr hs
 have hb : Below w.heap.size w42 w43 := hc.below e_w.size l43.1
 revert s3; refine kp1 hs rfl ?_; intro s3
 clear s71 s72
 replace s3 := hu _ _ _ (Q00 e_w40 s3)
 replace e_w := e_w.below (Nat.le_refl _) hb
 clear e_w40
 clear hu hs hc hb
 refine wpList_nil ?_
 refine es ?_
 refine Q04 74 [[(3, none)], [(73, some 0)]] [?b44_0, ?b44_0] Q08 hr ?t44 ?o44 ?_
 case o44 =>
  apply oc0; intro A W hx hf
  exact Q01 (a0 := a43) (r0 hf)
  apply oc0; intro A W hx hf
  exact Q03 (q0 ?b44_0 A W 73 hf)
  exact onn
 case t44 => exact inferInstance
 clear hr; intro a45 w45 x hr hd hs
 have u2 := mv s3 (fa ?b44_0 a45 w45 2 (hd 1 2 rfl))
 clear s3
 have s2 := u2; clear u2
 replace e_w := e_w.trans x
 have e_w43 := x; clear hd hs x
 refine et ?_
 refine wp_ret ?_
 refine Q0r Try.results35 hr e_w ?_
 exact OwnB.cast (OwnB.mono (Q00 e_w43 s2).own hB) (Qjl hbl hcb)

end Go.Proofs.Ytlmdboaghojgiaa
