import Derived.Test.YtlmdboaghojgiaaFacts
import Derived.Test.YtlmdboaghojgiaaS08
namespace Go.Proofs.Ytlmdboaghojgiaa
open Go.RowKit
set_option linter.unusedVariables false
set_option linter.unusedSimpArgs false
set_option maxRecDepth 4000
def Qk3 : List Tmp := [7, 18, 19, 20, 21, 22, 23, 24, 25, 26, 27]
theorem Qk2 {x0 x1 : Value} {w : World} {l : List UInt8} (h0 : (Bs l) x0 w) (h1 : (Is (.bool true)) x1 w)  :
    Calls Try.prog 67 #[x0, x1] w (Ret (Is (.int .u64 (be (l.take 8)))) w) := by
 have hlen := Bs.len_le h0
 have ht8 : (l.take 8).length ≤ 8 := by simp; omega
 refine enter Try.func67 rfl Try.ntmps67 (k := 2) rfl (by decide) (fun a0 hr hargs => ?_)
 have s0 := sarg h0 (hargs 0 (by decide))
 have s1 := sarg h1 (hargs 1 (by decide))
 clear hargs
 refine sq ?_
 refine Q04 39 [[]] [?b1_0] Q08 hr ?t1 ?o1 ?_
 case o1 =>
  apply oc0; intro A W hx hf
  exact Q05
  exact onn
 case t1 => exact inferInstance
 clear hr; intro a2 w2 x hr hd hs
 revert s1; revert s0; refine kp2 hs rfl ?_; intro s0 s1
 have e_w := x; clear hd hs x
 refine es ?_
 refine Q04 39 [[(0, none)], [(0, none)], [(11, some 1)], [(12, some 2)], [(10, some 0), (13, some 3)], [(14, some 4)]] [?b3_0, ?b3_1, ?b3_2, ?b3_3, ?b3_4, ?b3_4] Q08 hr ?t3 ?o3 ?_
 case o3 =>
  apply oc0; intro A W hx hf
  exact Q01 (a0 := a2) (r0 hf)
  apply oc0; intro A W hx hf
  exact Q01 (a0 := a2) (r0 hf)
  apply oc0; intro A W hx hf
  exact Q0v tu22 (p2 s0 e_w hx (q0 ?b3_1 A W 11 hf))
  apply oc0; intro A W hx hf
  exact Qhv (q0 ?b3_2 A W 12 hf) (ec A (.int .i64 8))
  apply oc0; intro A W hx hf
  exact Q4x (min l.length 8) tu22 Q0s (sarg s0 (show _ = _ from (q0 ?b3_0 A W 10 hf))) (Is.int (q1 ?b3_3 A W 13 hf) (by split <;> omega)) (by omega)
  apply oc0; intro A W hx hf
  exact Q03 (q0 ?b3_4 A W 14 hf)
  exact onn
 case t3 => exact inferInstance
 clear hr; intro a4 w4 x hr hd hs
 revert s1; refine kp1 hs rfl ?_; intro s1
 clear s0
 have s0 := AtW.base (fa ?b3_4 a4 w4 0 (hd 5 0 rfl))
 replace e_w := e_w.trans x; clear hd hs x
 replace s0 := Bs.cast s0 (show l.take (min l.length 8) = l.take 8 from by rw [Nat.min_comm, ← List.take_take, List.take_length])
 refine es ?_
 refine Q06 (l := [_]) (rest := [_]) 39 [[]] [?b5_0] hr ?t5 ?o5 ?_
 case o5 =>
  apply oc0; intro A W hx hf
  exact Q0y [[.int .u64 0]] [1] Qno (by rfl) (by rfl) hx.size
  exact onn
 case t5 => exact inferInstance
 clear hr; intro a6 w6 x hr hd hs
 have z_w_w4 := e_w.size
 revert s0; revert s1; refine kp2 hs rfl ?_; intro s1 s0
 have s5 := fa ?b5_0 a6 w6 5 (hd 0 5 rfl)
 obtain ⟨g6_5, q6_5⟩ := PxN.at s5; clear s5; have n6_5 := PxS.lt q6_5
 replace q6_5 := PxS.mono q6_5 e_w.size
 have s5 := q6_5; clear q6_5
 replace e_w := e_w.trans x; clear hd hs x
 have z7 := PxS.lt s5
 have l7 := (show (g6_5 = 0 ∨ w.heap.size < g6_5) ∧ True from ⟨by omega, trivial⟩)
 refine Q1z hr Qmy s5 (ec a6 (.int .u64 0)) (by rfl) rfl ?_; clear hr; intro a7 w7 hc hu hr hs
 have hb : Below w.heap.size w6 w7 := hc.below e_w.size l7.1
 revert s5; revert s0; revert s1; refine kp3 hs rfl ?_; intro s1 s0 s5
 replace s5 := hu _ _ _ s5
 try simp only [List.set_cons_zero, List.set_cons_succ] at s5
 replace e_w := e_w.below (Nat.le_refl _) hb
 clear hu hs hc hb
 refine wpList_nil ?_
 refine es ?_
 refine sq ?_
 refine Q04 39 [[(1, none)]] [?b8_0] Q08 hr ?t8 ?o8 ?_
 case o8 =>
  apply oc0; intro A W hx hf
  exact Q01 (a0 := a7) (r0 hf)
  exact onn
 case t8 => exact inferInstance
 clear hr; intro a9 w9 x hr hd hs
 have u15 := mv s1 (fa ?b8_0 a9 w9 15 (hd 0 15 rfl))
 revert s5; revert s0; refine kp2 hs rfl ?_; intro s0 s5
 clear s1
 have s15 := u15; clear u15
 replace e_w := e_w.trans x
 have e_w7 := x; clear hd hs x
 refine et ?_
 refine wp_cond_split (show _ = _ from s15) (fun hb => ?_) (fun hb => ?_)
 ·
  skip
  refine sq ?_
  refine sq ?_
  refine Q04 39 [[(0, none)], [(16, some 0)], []] [?b11_0, ?b11_1, ?b11_2] Q08 hr ?t11 ?o11 ?_
  case o11 =>
   apply oc0; intro A W hx hf
   exact Q01 (a0 := a9) (r0 hf)
   apply oc0; intro A W hx hf
   exact Q0v tu22 (p2 s0 e_w hx (q0 ?b11_0 A W 16 hf))
   apply oc0; intro A W hx hf
   exact Q7h
   exact onn
  case t11 => exact inferInstance
  clear hr; intro a12 w12 x hr hd hs
  have u16 := mv s0 (fa ?b11_0 a12 w12 16 (hd 0 16 rfl))
  revert s5; refine kp1 hs rfl ?_; intro s5
  clear s0 s15
  have s16 := u16; clear u16
  have s17 := fa ?b11_1 a12 w12 17 (hd 1 17 rfl)
  have s18 := fa ?b11_2 a12 w12 18 (hd 2 18 rfl)
  replace e_w := e_w.trans x
  replace e_w7 := e_w7.trans x; clear hd hs x
  refine et ?_
  refine wp_block ?_
  refine Q14 (fun n A W => ∃ (j : Nat), n = (l.take 8).length - j ∧ Fr 39 A ∧ Same Qk3 a12 A ∧ Ext w W ∧ (j ≤ (l.take 8).length) ∧ (PxS g6_5 w.heap.size [1] [[.int .u64 (be ((l.take 8).take j))]] 0) (A.eval (.tmp 5)) W ∧ (Is (.int .i64 (j : Int))) (A.eval (.tmp 18)) W) ?start13 ?_
  case start13 =>
   refine ⟨_, 0, rfl, hr, Same.rfl, e_w, (by first | assumption | omega), ?_, ?_⟩
   · exact (Q00 e_w7 s5)
   · exact s18
  intro n13 a13 w13 hI
  clear e_w
  clear e_w7
  clear hr; obtain ⟨j, hn13, hr, hs, e_w, hj, u5, u18⟩ := hI
  revert s17; revert s16; refine kp2 hs rfl ?_; intro s16 s17
  clear s5 s18
  have s5 := u5; clear u5
  have s18 := u18; clear u18
  replace s17 := anyw (w2 := w13) s17
  have m13 := hs; clear hs
  refine sq ?_
  refine Q04 39 [[(18, none), (17, none)]] [?b14_0] Q08 hr ?t14 ?o14 ?_
  case o14 =>
   apply oc0; intro A W hx hf
   exact Q1b (o1 s18 hx (r0 hf)) (o1 s17 hx (r1 hf))
   exact onn
  case t14 => exact inferInstance
  clear hr; intro a15 w15 x hr hd hs
  revert s17; revert s18; revert s5; revert s16; refine kp4 hs rfl ?_; intro s16 s5 s18 s17
  have s19 := fa ?b14_0 a15 w15 19 (hd 0 19 rfl)
  replace e_w := e_w.trans x
  have e_w13 := x
  replace m13 := m13.tr hs rfl; clear hd hs x
  refine es ?_
  refine wp_cond_split (show _ = _ from s19) (fun hlt => ?_) (fun hlt => ?_)
  ·
   have hlt : j < (l.take 8).length := by simp at hlt; simp; omega
   refine wp_skip ?_
   refine es ?_
   refine wp_block ?_
   refine sq ?_
   refine Q04 39 [[(16, none), (18, none)], [(20, some 0)], [(21, some 1)]] [?b17_0, ?b17_1, ?b17_1] Q08 hr ?t17 ?o17 ?_
   case o17 =>
    apply oc0; intro A W hx hf
    exact Q12 (_) tu22 Q0s (o2 s16 e_w hx (r0 hf)) (o2 s18 e_w13 hx (r1 hf)) (by first | omega | decide | (simp; done) | (simp; omega))
    apply oc0; intro A W hx hf
    exact Q1d tu5 rfl (q0 ?b17_0 A W 20 hf)
    apply oc0; intro A W hx hf
    exact Q03 (q0 ?b17_1 A W 21 hf)
    exact onn
   case t17 => exact inferInstance
   clear hr; intro a18 w18 x hr hd hs
   revert s17; revert s18; revert s5; revert s16; refine kp4 hs rfl ?_; intro s16 s5 s18 s17
   clear s19
   have s7 := fa ?b17_1 a18 w18 7 (hd 2 7 rfl)
   replace e_w := e_w.trans x
   replace e_w13 := e_w13.trans x
   replace m13 := m13.tr hs rfl; clear hd hs x
   refine et ?_
   refine Q06 (l := [_, _, _, _, _]) (rest := [_]) 39 [[(5, none)], [(22, some 0)], [(7, none)], [(24, some 2)], [(23, some 1), (25, some 3)]] [?b19_0, ?b19_1, ?b19_2, ?b19_3, ?b19_4] hr ?t19 ?o19 ?_
   case o19 =>
    apply oc0; intro A W hx hf
    exact Q0a tu84 rfl (o2 s5 e_w13 hx (r0 hf)) rfl
    apply oc0; intro A W hx hf
    exact Qfp 8 (by decide) (q0 ?b19_0 A W 22 hf) (ec A (.int .u64 8))
    apply oc0; intro A W hx hf
    exact Q01 (a0 := a18) (r0 hf)
    apply oc0; intro A W hx hf
    exact Q2k tu5 tu84 (by decide) (p1 s7 hx (q0 ?b19_2 A W 24 hf))
    apply oc0; intro A W hx hf
    exact Qi0 (q0 ?b19_1 A W 23 hf) (q1 ?b19_3 A W 25 hf)
    exact onn
   case t19 => exact inferInstance
   clear hr; intro a20 w20 x hr hd hs
   revert s17; revert s18; revert s5; revert s16; refine kp4 hs rfl ?_; intro s16 s5 s18 s17
   clear s7
   have s26 := fa ?b19_4 a20 w20 26 (hd 4 26 rfl)
   replace e_w := e_w.trans x
   replace e_w13 := e_w13.trans x
   replace m13 := m13.tr hs rfl; clear hd hs x
   have z21 := PxS.lt (Q00 e_w13 s5)
   have l21 := (show (g6_5 = 0 ∨ w.heap.size < g6_5) ∧ True from ⟨by omega, trivial⟩)
   refine Q1z hr Qmy (Q00 e_w13 s5) s26 (by rfl) rfl ?_; clear hr; intro a21 w21 hc hu hr hs
   have hb : Below w.heap.size w20 w21 := hc.below e_w.size l21.1
   revert s17; revert s18; revert s5; revert s16; refine kp4 hs rfl ?_; intro s16 s5 s18 s17
   clear s26
   replace s5 := hu _ _ _ (Q00 e_w13 s5)
   try simp only [List.set_cons_zero, List.set_cons_succ] at s5
   replace e_w := e_w.below (Nat.le_refl _) hb
   clear e_w13
   replace s18 := anyw (w2 := w21) s18
   replace s17 := anyw (w2 := w21) s17
   replace m13 := m13.tr hs rfl
   clear hu hs hc hb
   refine wpList_nil ?_
   refine Q0x ?_
   refine et ?_
   refine Q04 39 [[(18, none)], [(27, some 0)]] [?b22_0, ?b22_0] Q08 hr ?t22 ?o22 ?_
   case o22 =>
    apply oc0; intro A W hx hf
    exact Q0o (o1 s18 hx (r0 hf)) (ec A (.int .i64 1)) (by omega)
    apply oc0; intro A W hx hf
    exact Q0h (q0 ?b22_0 A W 27 hf)
    exact onn
   case t22 => exact inferInstance
   clear hr; intro a23 w23 x hr hd hs
   revert s17; revert s5; revert s16; refine kp3 hs rfl ?_; intro s16 s5 s17
   clear s18
   have s18 := fa ?b22_0 a23 w23 18 (hd 1 18 rfl)
   replace e_w := e_w.trans x
   have e_w21 := x
   replace m13 := m13.tr hs rfl; clear hd hs x
   refine et ?_
   refine ⟨(fun (j : Nat) => (l.take 8).length - j) (j + 1), ?_, ?_⟩
   · (try dsimp only); omega
   refine ⟨j + 1, rfl, hr, m13, e_w, (by first | assumption | omega), ?_, ?_⟩
   · exact PxS.cast (Q00 e_w21 s5) (by rw [Qo1 hlt ht8])
   · exact s18
  have hlt : j = (l.take 8).length := by simp at hlt hj; simp; omega
  subst hlt
  refine wp_exit ?_
  refine Q0g ?_
  refine Q0g ?_
  refine Q1a ?_
  refine es ?_
  refine Q04 39 [[(5, none)], [(28, some 0)]] [?b24_0, ?b24_0] Q08 hr ?t24 ?o24 ?_
  case o24 =>
   apply oc0; intro A W hx hf
   exact Q0a tu84 rfl (o2 s5 e_w13 hx (r0 hf)) rfl
   apply oc0; intro A W hx hf
   exact Q03 (q0 ?b24_0 A W 28 hf)
   exact onn
  case t24 => exact inferInstance
  clear hr; intro a25 w25 x hr hd hs
  clear s16 s5 s18 s17 s19
  have s4 := fa ?b24_0 a25 w25 4 (hd 1 4 rfl)
  replace e_w := e_w.trans x
  clear e_w13; clear hd hs x
  refine et ?_
  refine wp_ret ?_
  refine Q0e ?_
  refine Q0r Try.results67 hr e_w ?_
  exact Is.int s4 (by rw [List.take_length])
 cases hb

def Qb3 : List Tmp := [2, 3, 7, 8, 9, 10, 11, 12, 13, 14, 15, 16, 17, 18, 19, 20, 21, 22, 23, 24, 25, 26, 27]
theorem Qhi {x0 : Value} {w : World} {x y : UInt8} {β B : Nat} (h0 : (OwnBA β B 5 [x, y]) x0 w)  :
    Calls Try.prog 64 #[x0] w (RetW β [x, y] [y, x] VP.top w) := by
 refine enter Try.func64 rfl Try.ntmps64 (k := 1) rfl (by decide) (fun a0 hr hargs => ?_)
 have s0 := sarg h0 (hargs 0 (by decide))
 have c_w : ChgAt β w w := ChgAt.refl _ _
 have u_w : UpB β [x, y] [x, y] w w := UpB.refl
 clear hargs
 refine sq ?_
 refine Q04 28 [[(0, none)], [(4, some 0)], [(5, some 1)], [], [(6, some 2)]] [?b1_0, ?b1_1, ?b1_2, ?b1_3, ?b1_2] Q08 hr ?t1 ?o1 ?_
 case o1 =>
  apply oc0; intro A W hx hf
  exact Q01 (a0 := a0) (r0 hf)
  apply oc0; intro A W hx hf
  exact Q0v tu22 (OwnBA.bs (p1 s0 hx (q0 ?b1_0 A W 4 hf)))
  apply oc0; intro A W hx hf
  exact Q9i (q0 ?b1_1 A W 5 hf) (ec A (.int .i64 1)) (by simp)
  apply oc0; intro A W hx hf
  exact Q05
  apply oc0; intro A W hx hf
  exact Q03 (q0 ?b1_2 A W 6 hf)
  exact onn
 case t1 => exact inferInstance
 clear hr; intro a2 w2 x hr hd hs
 revert s0; refine kp1 hs rfl ?_; intro s0
 have s2 := fa ?b1_3 a2 w2 2 (hd 3 2 rfl)
 have s3 := fa ?b1_2 a2 w2 3 (hd 4 3 rfl)
 replace c_w := c_w.ext x; replace u_w := u_w.ext x
 have e_w := x; clear hd hs x
 refine et ?_
 refine wp_block ?_
 refine Q14 (fun n A W => ∃ (k : Nat), n = 1 - k ∧ Fr 28 A ∧ Same Qb3 a2 A ∧ ChgAt β w W ∧ UpB β [x, y] (if k = 0 then [x, y] else [y, x]) w W ∧ (k ≤ 1) ∧ (OwnBA β B 5 (if k = 0 then [x, y] else [y, x])) (A.eval (.tmp 0)) W ∧ (Is (.int .i64 (k : Int))) (A.eval (.tmp 2)) W ∧ (Is (.int .i64 (1 - (k : Int)))) (A.eval (.tmp 3)) W) ?start3 ?_
 case start3 =>
  refine ⟨_, 0, rfl, hr, Same.rfl, c_w, u_w, (by first | assumption | omega), ?_, ?_, ?_⟩
  · exact (Q00 e_w s0)
  · exact s2
  · exact Is.int s3 (by simp)
 intro n3 a3 w3 hI
 clear e_w
 clear hr c_w u_w; obtain ⟨k, hn3, hr, hs, c_w, u_w, hk, u0, u2, u3⟩ := hI
 clear s0 s2 s3
 have s0 := u0; clear u0
 have s2 := u2; clear u2
 have s3 := u3; clear u3
 have m3 := hs; clear hs
 refine sq ?_
 refine sq ?_
 refine Q04 28 [[(2, none)], [(3, none)], [(7, some 0), (8, some 1)]] [?b4_0, ?b4_1, ?b4_2] Q08 hr ?t4 ?o4 ?_
 case o4 =>
  apply oc0; intro A W hx hf
  exact Q01 (a0 := a3) (r0 hf)
  apply oc0; intro A W hx hf
  exact Q01 (a0 := a3) (r0 hf)
  apply oc0; intro A W hx hf
  exact Q1b (p1 s2 hx (q0 ?b4_0 A W 7 hf)) (p1 s3 hx (q1 ?b4_1 A W 8 hf))
  exact onn
 case t4 => exact inferInstance
 clear hr; intro a5 w5 x hr hd hs
 revert s3; revert s2; revert s0; refine kp3 hs rfl ?_; intro s0 s2 s3
 have s9 := fa ?b4_2 a5 w5 9 (hd 2 9 rfl)
 replace c_w := c_w.ext x; replace u_w := u_w.ext x
 have e_w3 := x
 replace m3 := m3.tr hs rfl; clear hd hs x
 refine et ?_
 refine wp_cond_split (show _ = _ from s9) (fun hlt => ?_) (fun hlt => ?_)
 ·
  have h0 : k = 0 := by simp at hlt; omega
  subst h0
  refine wp_skip ?_
  refine es ?_
  refine wp_block ?_
  refine Q1s Q08 (fun w7 x => ?_)
  show wpAny _ _ _ _ 16 _ _ _
  replace c_w := c_w.ext x; replace u_w := u_w.ext x
  replace e_w3 := e_w3.trans x
  have e_w5 := x
  clear x
  refine Qmj (i := 2) hr rfl (by decide) (by kernel_rfl) (fun _ _ _ _ h => h) (Q1p (Q0h (Q00 e_w3 s0)) (Q3s)) ?_; clear hr; intro a8 hr hd hs
  revert s3; revert s2; revert s0; refine kp3 hs rfl ?_; intro s0 s2 s3
  clear s9
  have s16 := hd
  replace m3 := m3.tr hs rfl
  clear hd hs
  refine Qmj (i := 3) hr rfl (by decide) (by kernel_rfl) (fun _ _ _ _ h => h) (Q1p (Q0h (Q00 e_w3 s3)) (Q3s)) ?_; clear hr; intro a9 hr hd hs
  revert s16; revert s3; revert s2; revert s0; refine kp4 hs rfl ?_; intro s0 s2 s3 s16
  have s17 := hd
  replace m3 := m3.tr hs rfl
  clear hd hs
  refine Q60 (l := [_, _, _, _, _, _, _, _, _, _, _, _, _, _, _, _]) 28 _ [false, false, true, true, false, false, false, false, false, false, false, false, false, true, true, true] [13, 14, 15] [[(0, none)], [(2, none)], [], [], [(0, none)], [(3, none)], [(18, some 4), (19, some 5)], [(20, some 6)], [(0, none)], [(2, none)], [(22, some 8), (23, some 9)], [(24, some 10)], [(14, some 0), (15, some 1)], [], [], []] [?b10_0, ?b10_1, VP.top, VP.top, ?b10_4, ?b10_5, ?b10_6, ?b10_7, ?b10_8, ?b10_9, ?b10_10, ?b10_11, ?b10_12, VP.top, VP.top, VP.top] (by kernel_rfl) rfl (by kernel_rfl) hr ?t10 ?o10 ?_
  case o10 =>
   apply lc0; intro A W hx hf
   exact Q01 (a0 := a9) (r0 hf)
   apply lc0; intro A W hx hf
   exact Q01 (a0 := a9) (r0 hf)
   refine lcs ?_
   refine lcs ?_
   apply lc0; intro A W hx hf
   exact Q01 (a0 := a9) (r0 hf)
   apply lc0; intro A W hx hf
   exact Q01 (a0 := a9) (r0 hf)
   apply lc0; intro A W hx hf
   exact Q12 (1) tu22 Q0s (OwnBA.bs (p2 s0 e_w3 hx (q0 ?b10_4 A W 18 hf))) (Is.int (p2 s3 e_w3 hx (q1 ?b10_5 A W 19 hf)) (by rfl)) (by simp)
   apply lc0; intro A W hx hf
   exact Q1d tu5 rfl (q0 ?b10_6 A W 20 hf)
   apply lc0; intro A W hx hf
   exact Q01 (a0 := a9) (r0 hf)
   apply lc0; intro A W hx hf
   exact Q01 (a0 := a9) (r0 hf)
   apply lc0; intro A W hx hf
   exact Q12 (_) tu22 Q0s (OwnBA.bs (p2 s0 e_w3 hx (q0 ?b10_8 A W 22 hf))) (p2 s2 e_w3 hx (q1 ?b10_9 A W 23 hf)) (by simp)
   apply lc0; intro A W hx hf
   exact Q1d tu5 rfl (q0 ?b10_10 A W 24 hf)
   apply lc0; intro A W hx hf
   exact Q34 (_) tu22 Q0s (p2 s0 e_w3 hx (q0 ?b10_0 A W 14 hf)) (p2 s2 e_w3 hx (q1 ?b10_1 A W 15 hf)) (by simp)
   refine lcs ?_
   refine lcs ?_
   refine lcs ?_
   exact lcn
  case t10 => exact inferInstance
  clear hr; intro a11 w11 x hr hd hs
  have u14 := mv s0 (fa ?b10_0 a11 w11 14 (hd 0 14 rfl rfl))
  have u15 := mv s2 (fa ?b10_1 a11 w11 15 (hd 1 15 rfl rfl))
  have u18 := mv s0 (fa ?b10_4 a11 w11 18 (hd 4 18 rfl rfl))
  have u19 := mv s3 (fa ?b10_5 a11 w11 19 (hd 5 19 rfl rfl))
  have u22 := mv s0 (fa ?b10_8 a11 w11 22 (hd 8 22 rfl rfl))
  have u23 := mv s2 (fa ?b10_9 a11 w11 23 (hd 9 23 rfl rfl))
  revert s17; revert s16; revert s3; revert s2; revert s0; refine kp5 hs rfl ?_; intro s0 s2 s3 s16 s17
  have s14 := u14; clear u14
  have s15 := u15; clear u15
  have s18 := u18; clear u18
  have s19 := u19; clear u19
  have s22 := u22; clear u22
  have s23 := u23; clear u23
  have s20 := fa ?b10_6 a11 w11 20 (hd 6 20 rfl rfl)
  have s21 := fa ?b10_7 a11 w11 21 (hd 7 21 rfl rfl)
  have s24 := fa ?b10_10 a11 w11 24 (hd 10 24 rfl rfl)
  have s25 := fa ?b10_11 a11 w11 25 (hd 11 25 rfl rfl)
  have s26 := fa ?b10_12 a11 w11 26 (hd 12 26 rfl rfl)
  replace c_w := c_w.ext x; replace u_w := u_w.ext x
  replace e_w3 := e_w3.trans x
  clear e_w5
  have e_w7 := x
  replace m3 := m3.tr hs rfl; clear hd hs x
  show wpList _ _ _ [_, _, _] _ _
  refine Q35 hr Q0s s26 s21 ?_; clear hr; intro a12 w12 hc hu hr hs
  revert s25; revert s17; revert s16; revert s3; revert s2; revert s0; refine kp6 hs rfl ?_; intro s0 s2 s3 s16 s17 s25
  clear s14 s15 s18 s19 s22 s23 s20 s21 s24 s26
  replace s0 := hu _ _ _ (Q00 e_w3 s0)
  replace s16 := hu _ _ _ (Q00 e_w7 s16)
  replace c_w := c_w.trans hc; replace u_w := u_w.trans hu
  clear e_w3
  clear e_w7
  replace s2 := anyw (w2 := w12) s2
  replace s3 := anyw (w2 := w12) s3
  replace s17 := anyw (w2 := w12) s17
  replace s25 := anyw (w2 := w12) s25
  replace m3 := m3.tr hs rfl
  clear hu hs hc
  refine Q11 hr (Q34 (1) tu22 Q0s s16 (Is.int s17 (by rfl)) (by simp)) inferInstance ?_; clear hr; intro a13 w13 x hr hd hs
  revert s25; revert s3; revert s2; revert s0; refine kp4 hs rfl ?_; intro s0 s2 s3 s25
  clear s16 s17
  have s27 := hd 27 rfl (by decide)
  replace c_w := c_w.ext x; replace u_w := u_w.ext x
  have e_w12 := x
  replace m3 := m3.tr hs rfl; clear hd hs x
  refine Q35 hr Q0s s27 (Q00 e_w12 s25) ?_; clear hr; intro a14 w14 hc hu hr hs
  revert s3; revert s2; revert s0; refine kp3 hs rfl ?_; intro s0 s2 s3
  clear s25 s27
  replace s0 := hu _ _ _ (Q00 e_w12 s0)
  replace c_w := c_w.trans hc; replace u_w := u_w.trans hu
  clear e_w12
  replace s2 := anyw (w2 := w14) s2
  replace s3 := anyw (w2 := w14) s3
  replace m3 := m3.tr hs rfl
  clear hu hs hc
  refine wpList_nil ?_
  refine Q0x ?_
  refine et ?_
  refine Q04 28 [[(2, none)], [(10, some 0)], [(3, none)], [(12, some 2)], [(11, some 1)], [(13, some 3)]] [?b15_0, ?b15_1, ?b15_2, ?b15_3, ?b15_1, ?b15_3] Q08 hr ?t15 ?o15 ?_
  case o15 =>
   apply oc0; intro A W hx hf
   exact Q01 (a0 := a14) (r0 hf)
   apply oc0; intro A W hx hf
   exact Q0o (p1 s2 hx (q0 ?b15_0 A W 10 hf)) (ec A (.int .i64 1)) (by omega)
   apply oc0; intro A W hx hf
   exact Q01 (a0 := a14) (r0 hf)
   apply oc0; intro A W hx hf
   exact Q9i (p1 s3 hx (q0 ?b15_2 A W 12 hf)) (ec A (.int .i64 1)) (by omega)
   apply oc0; intro A W hx hf
   exact Q03 (q0 ?b15_1 A W 11 hf)
   apply oc0; intro A W hx hf
   exact Q03 (q0 ?b15_3 A W 13 hf)
   exact onn
  case t15 => exact inferInstance
  clear hr; intro a16 w16 x hr hd hs
  revert s0; refine kp1 hs rfl ?_; intro s0
  clear s2 s3
  have s2 := fa ?b15_1 a16 w16 2 (hd 4 2 rfl)
  have s3 := fa ?b15_3 a16 w16 3 (hd 5 3 rfl)
  replace c_w := c_w.ext x; replace u_w := u_w.ext x
  have e_w14 := x
  replace m3 := m3.tr hs rfl; clear hd hs x
  refine et ?_
  refine ⟨(fun (k : Nat) => 1 - k) (1), ?_, ?_⟩
  · (try dsimp only); omega
  refine ⟨1, rfl, hr, m3, c_w, u_w.cast (by rfl), (by first | assumption | omega), ?_, ?_, ?_⟩
  · exact OwnBA.cast (Q00 e_w14 s0) (by rfl)
  · exact Is.int s2 (by rfl)
  · exact Is.int s3 (by rfl)
 have h0 : k = 1 := by simp at hlt; omega
 subst h0
 refine wp_exit ?_
 refine Q0g ?_
 refine Q0g ?_
 refine Q1a ?_
 refine Qpf Try.results64 hr c_w (u_w.cast (by rfl)) trivial

def Qk4 : List Tmp := [8, 15, 16, 17, 18, 19, 20, 21, 22, 23, 24, 25, 26]
theorem Qrd {x0 x1 x2 : Value} {w : World} {m : Int} {B : Nat} (h0 : (Is (.int .u64 m)) x0 w) (h1 : (Is (.int .i64 2)) x1 w) (h2 : (Is (.bool true)) x2 w) (hn : 0 ≤ m) (hB : B ≤ w.heap.size) :
    Calls Try.prog 41 #[x0, x1, x2] w (Ret (OwnB B 5 (put2 m)) w) := by
 refine enter Try.func41 rfl Try.ntmps41 (k := 3) rfl (by decide) (fun a0 hr hargs => ?_)
 have s0 := sarg h0 (hargs 0 (by decide))
 have s1 := sarg h1 (hargs 1 (by decide))
 have s2 := sarg h2 (hargs 2 (by decide))
 clear hargs
 refine sq ?_
 refine Q04 31 [[]] [?b1_0] Q08 hr ?t1 ?o1 ?_
 case o1 =>
  apply oc0; intro A W hx hf
  exact Q1l (Bs []) (fun _ => Qi5)
  exact onn
 case t1 => exact inferInstance
 clear hr; intro a2 w2 x hr hd hs
 revert s2; revert s1; revert s0; refine kp3 hs rfl ?_; intro s0 s1 s2
 have e_w := x; clear hd hs x
 refine es ?_
 refine Q04 31 [[(1, none)], [(9, some 0)], [(10, some 1)], [(11, some 2)], [(12, some 3)]] [?b3_0, ?b3_1, ?b3_2, ?b3_3, ?b3_3] Q08 hr ?t3 ?o3 ?_
 case o3 =>
  apply oc0; intro A W hx hf
  exact Q01 (a0 := a2) (r0 hf)
  apply oc0; intro A W hx hf
  exact Qbl (p2 s1 e_w hx (q0 ?b3_0 A W 9 hf)) (ec A (.int .i64 0))
  apply oc0; intro A W hx hf
  exact Qhv (q0 ?b3_1 A W 10 hf) (ec A (.int .i64 8))
  apply oc0; intro A W hx hf
  exact Qd5 (n := 2) tu22 Q3u (q0 ?b3_2 A W 11 hf) (q0 ?b3_2 A W 11 hf) (by omega) hx.size
  apply oc0; intro A W hx hf
  exact Q03 (q0 ?b3_3 A W 12 hf)
  exact onn
 case t3 => exact inferInstance
 clear hr; intro a4 w4 x hr hd hs
 have z_w_w2 := e_w.size
 revert s2; revert s0; refine kp2 hs rfl ?_; intro s0 s2
 clear s1
 have s7 := fa ?b3_3 a4 w4 7 (hd 4 7 rfl)
 obtain ⟨g4_7, q4_7⟩ := OwnB.at s7; clear s7; have n4_7 := OwnBA.lt q4_7
 replace q4_7 := OwnBA.mono q4_7 e_w.size
 have s7 := q4_7; clear q4_7
 replace e_w := e_w.trans x; clear hd hs x
 refine es ?_
 refine sq ?_
 refine Q04 31 [[(7, none)], [(13, some 0)], []] [?b5_0, ?b5_1, ?b5_2] Q08 hr ?t5 ?o5 ?_
 case o5 =>
  apply oc0; intro A W hx hf
  exact Q01 (a0 := a4) (r0 hf)
  apply oc0; intro A W hx hf
  exact Q0v tu22 (OwnBA.bs (p1 s7 hx (q0 ?b5_0 A W 13 hf)))
  apply oc0; intro A W hx hf
  exact Q7h
  exact onn
 case t5 => exact inferInstance
 clear hr; intro a6 w6 x hr hd hs
 revert s7; revert s2; revert s0; refine kp3 hs rfl ?_; intro s0 s2 s7
 have s14 := fa ?b5_1 a6 w6 14 (hd 1 14 rfl)
 have s15 := fa ?b5_2 a6 w6 15 (hd 2 15 rfl)
 replace e_w := e_w.trans x
 have e_w4 := x; clear hd hs x
 refine et ?_
 refine wp_block ?_
 refine Q14 (fun n A W => ∃ (i : Nat), n = 2 - i ∧ Fr 31 A ∧ Same Qk4 a6 A ∧ Ext w W ∧ (i ≤ 2) ∧ (OwnBA g4_7 w.heap.size 5 (Qeq m i)) (A.eval (.tmp 7)) W ∧ (Is (.int .i64 (i : Int))) (A.eval (.tmp 15)) W) ?start7 ?_
 case start7 =>
  refine ⟨_, 0, rfl, hr, Same.rfl, e_w, (by first | assumption | omega), ?_, ?_⟩
  · exact (Q00 e_w4 s7)
  · exact s15
 intro n7 a7 w7 hI
 clear e_w
 clear e_w4
 clear hr; obtain ⟨i, hn7, hr, hs, e_w, hi, u7, u15⟩ := hI
 revert s14; revert s2; revert s0; refine kp3 hs rfl ?_; intro s0 s2 s14
 clear s7 s15
 have s7 := u7; clear u7
 have s15 := u15; clear u15
 replace s14 := anyw (w2 := w7) s14
 have m7 := hs; clear hs
 refine sq ?_
 refine Q04 31 [[(15, none), (14, none)]] [?b8_0] Q08 hr ?t8 ?o8 ?_
 case o8 =>
  apply oc0; intro A W hx hf
  exact Q1b (o1 s15 hx (r0 hf)) (o1 s14 hx (r1 hf))
  exact onn
 case t8 => exact inferInstance
 clear hr; intro a9 w9 x hr hd hs
 revert s14; revert s15; revert s7; revert s2; revert s0; refine kp5 hs rfl ?_; intro s0 s2 s7 s15 s14
 have s16 := fa ?b8_0 a9 w9 16 (hd 0 16 rfl)
 replace e_w := e_w.trans x
 have e_w7 := x
 replace m7 := m7.tr hs rfl; clear hd hs x
 refine es ?_
 refine wp_cond_split (show _ = _ from s16) (fun hlt => ?_) (fun hlt => ?_)
 ·
  have hlt : i < 2 := by simp at hlt; omega
  refine wp_skip ?_
  refine es ?_
  refine wp_block ?_
  refine sq ?_
  refine Q04 31 [[(15, none)], [(17, some 0)]] [?b11_0, ?b11_0] Q08 hr ?t11 ?o11 ?_
  case o11 =>
   apply oc0; intro A W hx hf
   exact Q01 (a0 := a9) (r0 hf)
   apply oc0; intro A W hx hf
   exact Q03 (q0 ?b11_0 A W 17 hf)
   exact onn
  case t11 => exact inferInstance
  clear hr; intro a12 w12 x hr hd hs
  have u8 := mv s15 (fa ?b11_0 a12 w12 8 (hd 1 8 rfl))
  revert s14; revert s15; revert s7; revert s2; revert s0; refine kp5 hs rfl ?_; intro s0 s2 s7 s15 s14
  clear s16
  have s8 := u8; clear u8
  replace e_w := e_w.trans x
  replace e_w7 := e_w7.trans x
  replace m7 := m7.tr hs rfl; clear hd hs x
  refine et ?_
  refine Q06 (l := [_, _, _, _, _, _, _, _]) (rest := [_]) 31 [[(7, none)], [(8, none)], [(0, none)], [(8, none)], [(21, some 3)], [(20, some 2), (22, some 4)], [(23, some 5)], [(18, some 0), (19, some 1)]] [?b13_0, ?b13_1, ?b13_2, ?b13_3, ?b13_4, ?b13_5, ?b13_6, ?b13_7] hr ?t13 ?o13 ?_
  case o13 =>
   apply oc0; intro A W hx hf
   exact Q01 (a0 := a12) (r0 hf)
   apply oc0; intro A W hx hf
   exact Q01 (a0 := a12) (r0 hf)
   apply oc0; intro A W hx hf
   exact Q01 (a0 := a12) (r0 hf)
   apply oc0; intro A W hx hf
   exact Q01 (a0 := a12) (r0 hf)
   apply oc0; intro A W hx hf
   exact Q5j (ec A (.int .i64 8)) (p2 s8 e_w7 hx (q0 ?b13_3 A W 21 hf)) (by omega)
   apply oc0; intro A W hx hf
   exact Qcz (8 * i) (by show _ ≤ 64; omega) (p2 s0 e_w hx (q0 ?b13_2 A W 20 hf)) (Is.int (q1 ?b13_4 A W 22 hf) (by omega))
   apply oc0; intro A W hx hf
   exact Q15 tu84 tu5 (q0 ?b13_5 A W 23 hf)
   apply oc0; intro A W hx hf
   exact Q34 (_) tu22 Q0s (p2 s7 e_w7 hx (q0 ?b13_0 A W 18 hf)) (p2 s8 e_w7 hx (q1 ?b13_1 A W 19 hf)) (by rw [Qje]; exact hlt)
   exact onn
  case t13 => exact inferInstance
  clear hr; intro a14 w14 x hr hd hs
  revert s14; revert s15; revert s7; revert s2; revert s0; refine kp5 hs rfl ?_; intro s0 s2 s7 s15 s14
  clear s8
  have s24 := fa ?b13_6 a14 w14 24 (hd 6 24 rfl)
  have s25 := fa ?b13_7 a14 w14 25 (hd 7 25 rfl)
  replace e_w := e_w.trans x
  replace e_w7 := e_w7.trans x
  replace m7 := m7.tr hs rfl; clear hd hs x
  have z15 := EpA.lt s25
  have l15 := (show (g4_7 = 0 ∨ w.heap.size < g4_7) ∧ True from ⟨by omega, trivial⟩)
  refine Q35 hr Q0s s25 s24 ?_; clear hr; intro a15 w15 hc hu hr hs
  have hb : Below w.heap.size w14 w15 := hc.below e_w.size l15.1
  revert s14; revert s15; revert s7; revert s2; revert s0; refine kp5 hs rfl ?_; intro s0 s2 s7 s15 s14
  clear s24 s25
  replace s7 := hu _ _ _ (Q00 e_w7 s7)
  replace e_w := e_w.below (Nat.le_refl _) hb
  clear e_w7
  replace s15 := anyw (w2 := w15) s15
  replace s14 := anyw (w2 := w15) s14
  replace m7 := m7.tr hs rfl
  clear hu hs hc hb
  refine wpList_nil ?_
  refine Q0x ?_
  refine et ?_
  refine Q04 31 [[(15, none)], [(26, some 0)]] [?b16_0, ?b16_0] Q08 hr ?t16 ?o16 ?_
  case o16 =>
   apply oc0; intro A W hx hf
   exact Q0o (o1 s15 hx (r0 hf)) (ec A (.int .i64 1)) (by omega)
   apply oc0; intro A W hx hf
   exact Q0h (q0 ?b16_0 A W 26 hf)
   exact onn
  case t16 => exact inferInstance
  clear hr; intro a17 w17 x hr hd hs
  revert s14; revert s7; revert s2; revert s0; refine kp4 hs rfl ?_; intro s0 s2 s7 s14
  clear s15
  have s15 := fa ?b16_0 a17 w17 15 (hd 1 15 rfl)
  replace e_w := e_w.trans x
  have e_w15 := x
  replace m7 := m7.tr hs rfl; clear hd hs x
  refine et ?_
  refine ⟨(fun (i : Nat) => 2 - i) (i + 1), ?_, ?_⟩
  · (try dsimp only); omega
  refine ⟨i + 1, rfl, hr, m7, e_w, (by first | assumption | omega), ?_, ?_⟩
  · exact OwnBA.cast (Q00 e_w15 s7) (Qjf hlt)
  · exact s15
 have hlt : i = 2 := by simp at hlt; omega
 subst hlt
 refine wp_exit ?_
 refine Q0g ?_
 refine Q0g ?_
 refine Q1a ?_
 refine es ?_
 refine sq ?_
 refine Q04 31 [[(2, none)]] [?b18_0] Q08 hr ?t18 ?o18 ?_
 case o18 =>
  apply oc0; intro A W hx hf
  exact Q01 (a0 := a9) (r0 hf)
  exact onn
 case t18 => exact inferInstance
 clear hr; intro a19 w19 x hr hd hs
 have u27 := mv s2 (fa ?b18_0 a19 w19 27 (hd 0 27 rfl))
 revert s7; refine kp1 hs rfl ?_; intro s7
 clear s0 s2 s15 s14 s16
 have s27 := u27; clear u27
 replace e_w := e_w.trans x
 replace e_w7 := e_w7.trans x; clear hd hs x
 refine et ?_
 refine wp_cond_split (show _ = _ from s27) (fun hb => ?_) (fun hb => ?_)
 ·
  skip
  refine Q06 (l := [_]) (rest := [_]) 31 [[(7, none)]] [?b21_0] hr ?t21 ?o21 ?_
  case o21 =>
   apply oc0; intro A W hx hf
   exact Q01 (a0 := a19) (r0 hf)
   exact onn
  case t21 => exact inferInstance
  clear hr; intro a22 w22 x hr hd hs
  have u28 := mv s7 (fa ?b21_0 a22 w22 28 (hd 0 28 rfl))
  revert s7; refine kp1 hs rfl ?_; intro s7
  clear s27
  have s28 := u28; clear u28
  replace e_w := e_w.trans x
  replace e_w7 := e_w7.trans x; clear hd hs x
  have z23 := OwnBA.lt (Q00 e_w7 s28)
  have l23 := (show (g4_7 = 0 ∨ w.heap.size < g4_7) ∧ True from ⟨by omega, trivial⟩)
  refine Qie hr Qq4 (Qhi (Q00 e_w7 s28)) ?_; clear hr; intro a23 w23 hc hu hr hs
  have hb : Below w.heap.size w22 w23 := hc.below e_w.size l23.1
  revert s7; refine kp1 hs rfl ?_; intro s7
  clear s28
  replace s7 := hu _ _ _ (Q00 e_w7 s7)
  replace e_w := e_w.below (Nat.le_refl _) hb
  clear e_w7
  clear hu hs hc hb
  refine wpList_nil ?_
  refine es ?_
  refine Q04 31 [[(7, none)], [(30, some 0)]] [?b24_0, ?b24_0] Q08 hr ?t24 ?o24 ?_
  case o24 =>
   apply oc0; intro A W hx hf
   exact Q01 (a0 := a23) (r0 hf)
   apply oc0; intro A W hx hf
   exact Q03 (q0 ?b24_0 A W 30 hf)
   exact onn
  case t24 => exact inferInstance
  clear hr; intro a25 w25 x hr hd hs
  have u6 := mv s7 (fa ?b24_0 a25 w25 6 (hd 1 6 rfl))
  clear s7
  have s6 := u6; clear u6
  replace e_w := e_w.trans x
  have e_w23 := x; clear hd hs x
  refine et ?_
  refine wp_ret ?_
  refine Q0r Try.results41 hr e_w ?_
  exact OwnB.mono (Q00 e_w23 s6).own hB
 cases hb

end Go.Proofs.Ytlmdboaghojgiaa
