import Derived.Test.YtlmdboaghojgiaaC01
import Derived.Test.YtlmdboaghojgiaaC06
import Derived.Test.YtlmdboaghojgiaaS07
import Derived.Test.YtlmdboaghojgiaaE07
namespace Go.Proofs.Ytlmdboaghojgiaa
open Go.RowKit
set_option linter.unusedVariables false
set_option linter.unusedSimpArgs false
set_option maxRecDepth 4000
theorem Qri {x0 : Value} {w : World} {n : Int} (h0 : (Is (.int .i64 n)) x0 w)  :
    Calls Try.prog 70 #[x0] w (Ret (Is (.bool (tagB n))) w) := by
 refine enter Try.func70 rfl Try.ntmps70 (k := 1) rfl (by decide) (fun a0 hr hargs => ?_)
 have s0 := sarg h0 (hargs 0 (by decide))
 clear hargs
 refine sq ?_
 refine Q04 9 [[]] [?b1_0] Q08 hr ?t1 ?o1 ?_
 case o1 =>
  apply oc0; intro A W hx hf
  exact Q05
  exact onn
 case t1 => exact inferInstance
 clear hr; intro a2 w2 x hr hd hs
 revert s0; refine kp1 hs rfl ?_; intro s0
 have e_w := x; clear hd hs x
 refine es ?_
 refine Q04 9 [[(0, none)], [(3, some 0)], [(4, some 1)], [(0, none), (5, some 2)], [(6, some 3), (5, some 2)], [(5, some 2), (7, some 4)], [(8, some 5)]] [?b3_0, ?b3_1, ?b3_1, ?b3_3, ?b3_4, ?b3_5, ?b3_5] Q08 hr ?t3 ?o3 ?_
 case o3 =>
  apply oc0; intro A W hx hf
  exact Q01 (a0 := a2) (r0 hf)
  apply oc0; intro A W hx hf
  exact Q1i (p2 s0 e_w hx (q0 ?b3_0 A W 3 hf)) (ec A (.int .i64 33024))
  apply oc0; intro A W hx hf
  exact Q0h (q0 ?b3_1 A W 4 hf)
  refine ocg 5 ?_ (fun A W hx hf => ?_) ?_
  rfl
  exact gd_f (q1 ?b3_1 A W 5 hf) (fun hc => Q01 (a0 := a2) (r0 hf))
  refine ocg 5 ?_ (fun A W hx hf => ?_) ?_
  rfl
  exact gd_f (q1 ?b3_1 A W 5 hf) (fun hc => Q1i (p2 s0 e_w hx (G.get (q0 ?b3_3 A W 6 hf) hc)) (ec A (.int .i64 34984)))
  apply oc0; intro A W hx hf
  exact Q3o (q0 ?b3_1 A W 5 hf) (q1 ?b3_4 A W 7 hf)
  apply oc0; intro A W hx hf
  exact Q03 (q0 ?b3_5 A W 8 hf)
  exact onn
 case t3 => exact inferInstance
 clear hr; intro a4 w4 x hr hd hs
 clear s0
 have s2 := fa ?b3_5 a4 w4 2 (hd 6 2 rfl)
 replace e_w := e_w.trans x; clear hd hs x
 refine et ?_
 refine wp_ret ?_
 refine Q0r Try.results70 hr e_w ?_
 exact Is.bool s2 rfl

theorem Qkb {x0 : Value} {w : World} {n : Int} (h0 : (Is (.int .i64 n)) x0 w)  :
    Calls Try.prog 48 #[x0] w (Ret (Is (.bool (tagB n))) w) := by
 refine enter Try.func48 rfl Try.ntmps48 (k := 1) rfl (by decide) (fun a0 hr hargs => ?_)
 have s0 := sarg h0 (hargs 0 (by decide))
 clear hargs
 refine sq ?_
 refine Q04 9 [[]] [?b1_0] Q08 hr ?t1 ?o1 ?_
 case o1 =>
  apply oc0; intro A W hx hf
  exact Q05
  exact onn
 case t1 => exact inferInstance
 clear hr; intro a2 w2 x hr hd hs
 revert s0; refine kp1 hs rfl ?_; intro s0
 have e_w := x; clear hd hs x
 refine es ?_
 refine Q04 9 [[(0, none)], [(3, some 0)], [(4, some 1)], [(0, none), (5, some 2)], [(6, some 3), (5, some 2)], [(5, some 2), (7, some 4)], [(8, some 5)]] [?b3_0, ?b3_1, ?b3_1, ?b3_3, ?b3_4, ?b3_5, ?b3_5] Q08 hr ?t3 ?o3 ?_
 case o3 =>
  apply oc0; intro A W hx hf
  exact Q01 (a0 := a2) (r0 hf)
  apply oc0; intro A W hx hf
  exact Q1i (p2 s0 e_w hx (q0 ?b3_0 A W 3 hf)) (ec A (.int .i64 33024))
  apply oc0; intro A W hx hf
  exact Q0h (q0 ?b3_1 A W 4 hf)
  refine ocg 5 ?_ (fun A W hx hf => ?_) ?_
  rfl
  exact gd_f (q1 ?b3_1 A W 5 hf) (fun hc => Q01 (a0 := a2) (r0 hf))
  refine ocg 5 ?_ (fun A W hx hf => ?_) ?_
  rfl
  exact gd_f (q1 ?b3_1 A W 5 hf) (fun hc => Q1i (p2 s0 e_w hx (G.get (q0 ?b3_3 A W 6 hf) hc)) (ec A (.int .i64 34984)))
  apply oc0; intro A W hx hf
  exact Q3o (q0 ?b3_1 A W 5 hf) (q1 ?b3_4 A W 7 hf)
  apply oc0; intro A W hx hf
  exact Q03 (q0 ?b3_5 A W 8 hf)
  exact onn
 case t3 => exact inferInstance
 clear hr; intro a4 w4 x hr hd hs
 clear s0
 have s2 := fa ?b3_5 a4 w4 2 (hd 6 2 rfl)
 replace e_w := e_w.trans x; clear hd hs x
 refine et ?_
 refine wp_ret ?_
 refine Q0r Try.results48 hr e_w ?_
 exact Is.bool s2 rfl

theorem Qkc {x0 : Value} {w : World} {l : List UInt8} (h0 : (Bs l) x0 w) (h2 : 2 ≤ l.length) :
    Calls Try.prog 69 #[x0] w (Ret (Is (.int .i64 (Q07 l 0))) w) := by
 have hlen := Bs.len_le h0
 have hbe := Qdh (l := l) (i := 0) (by omega)
 have hw := Q0w l 0
 have h8 : (l.take 2).take 8 = subl l 0 (0 + 2) := by rw [List.take_of_length_le (by simp; omega)]; simp [subl]
 refine enter Try.func69 rfl Try.ntmps69 (k := 1) rfl (by decide) (fun a0 hr hargs => ?_)
 have s0 := sarg h0 (hargs 0 (by decide))
 clear hargs
 refine sq ?_
 refine Q04 7 [[]] [?b1_0] Q08 hr ?t1 ?o1 ?_
 case o1 =>
  apply oc0; intro A W hx hf
  exact Q05
  exact onn
 case t1 => exact inferInstance
 clear hr; intro a2 w2 x hr hd hs
 revert s0; refine kp1 hs rfl ?_; intro s0
 have e_w := x; clear hd hs x
 refine es ?_
 refine Q04 7 [[(0, none)], [(3, some 0)], [(4, some 1)], [(5, some 2)], [(6, some 3)]] [?b3_0, ?b3_1, ?b3_2, ?b3_3, ?b3_3] Q08 hr ?t3 ?o3 ?_
 case o3 =>
  apply oc0; intro A W hx hf
  exact Q01 (a0 := a2) (r0 hf)
  apply oc0; intro A W hx hf
  exact Qea (2) tu22 Q0s (p2 s0 e_w hx (q0 ?b3_0 A W 3 hf)) (ec A (.int .i64 2)) (by omega)
  apply oc0; intro A W hx hf
  exact Q0p Qdc (Qk2 (q0 ?b3_1 A W 4 hf) (show Is (.bool true) (A.eval (.const (.bool true))) _ from rfl))
  apply oc0; intro A W hx hf
  exact Q2d tu84 tu3 (by rw [h8, hbe]; exact IntWalk.i64_in _ (by omega)) (q0 ?b3_2 A W 5 hf)
  apply oc0; intro A W hx hf
  exact Q03 (q0 ?b3_3 A W 6 hf)
  exact onn
 case t3 => exact inferInstance
 clear hr; intro a4 w4 x hr hd hs
 clear s0
 have s2 := fa ?b3_3 a4 w4 2 (hd 4 2 rfl)
 replace e_w := e_w.trans x; clear hd hs x
 refine et ?_
 refine wp_ret ?_
 refine Q0r Try.results69 hr e_w ?_
 exact Is.int s2 (by rw [h8, hbe])

def Qf4 : List Tmp := [3, 22, 23, 24, 25, 26, 27, 28, 29, 30, 31, 32, 33, 34, 35, 36, 37, 38, 39, 40, 41, 42, 43, 44, 45, 46, 47, 48, 49, 50, 51, 52, 53, 54, 55, 56, 57, 58, 59, 60]
set_option maxHeartbeats 1000000 in
theorem Qon {x0 : Value} {w : World} {l : List UInt8} {B : Nat} (h0 : (Bs l) x0 w) (hB : B ≤ w.heap.size) :
    Calls Try.prog 57 #[x0] w (Ret (Tup2 (LinkO B 94 (Q0c l).1) (Is (.int .i64 (Q0c l).2))) w) := by
 have hlen := Bs.len_le h0
 refine enter Try.func57 rfl Try.ntmps57 (k := 1) rfl (by decide) (fun a0 hr hargs => ?_)
 have s0 := sarg h0 (hargs 0 (by decide))
 clear hargs
 refine sq ?_
 refine Q04 62 [[], []] [?b1_0, ?b1_1] Q08 hr ?t1 ?o1 ?_
 case o1 =>
  apply oc0; intro A W hx hf
  exact Q0y [(lnkS Q4q (.slice none 0 0)).flatten] [15] Qbw (by rfl) (by rfl) hx.size
  apply oc0; intro A W hx hf
  exact Q05
  exact onn
 case t1 => exact inferInstance
 clear hr; intro a2 w2 x hr hd hs
 revert s0; refine kp1 hs rfl ?_; intro s0
 have s2 := fa ?b1_0 a2 w2 2 (hd 0 2 rfl)
 obtain ⟨g2_2, q2_2⟩ := PxN.at s2; clear s2; have n2_2 := PxS.lt q2_2
 have s2 := q2_2; clear q2_2
 have e_w := x; clear hd hs x
 refine es ?_
 refine sq ?_
 refine Q04 62 [[(0, none)], [(5, some 0)], [(6, some 1)]] [?b3_0, ?b3_1, ?b3_2] Q08 hr ?t3 ?o3 ?_
 case o3 =>
  apply oc0; intro A W hx hf
  exact Q01 (a0 := a2) (r0 hf)
  apply oc0; intro A W hx hf
  exact Q0v tu22 (p2 s0 e_w hx (q0 ?b3_0 A W 5 hf))
  apply oc0; intro A W hx hf
  exact Q1b (q0 ?b3_1 A W 6 hf) (ec A (.int .i64 14))
  exact onn
 case t3 => exact inferInstance
 clear hr; intro a4 w4 x hr hd hs
 revert s2; revert s0; refine kp2 hs rfl ?_; intro s0 s2
 have s7 := fa ?b3_2 a4 w4 7 (hd 2 7 rfl)
 replace e_w := e_w.trans x
 have e_w2 := x; clear hd hs x
 refine et ?_
 refine wp_cond_split (show _ = _ from s7) (fun hl => ?_) (fun hl => ?_)
 ·
  have hl : l.length < 14 := by simp at hl; omega
  have hrd : Q0c l = (Q4q, 2) := Q3z (by omega)
  refine sq ?_
  refine Q06 (l := [_]) (rest := [_, _]) 62 [[]] [?b6_0] hr ?t6 ?o6 ?_
  case o6 =>
   apply oc0; intro A W hx hf
   exact Q13 Q9o
   exact onn
  case t6 => exact inferInstance
  clear hr; intro a7 w7 x hr hd hs
  revert s2; refine kp1 hs rfl ?_; intro s2
  clear s0 s7
  have s8 := fa ?b6_0 a7 w7 8 (hd 0 8 rfl)
  replace e_w := e_w.trans x
  replace e_w2 := e_w2.trans x; clear hd hs x
  have z8 := PxS.lt (Q00 e_w2 s2)
  have l8 := (show (g2_2 = 0 ∨ w.heap.size < g2_2) ∧ True from ⟨by omega, trivial⟩)
  refine Q0k hr Q2v (Q00 e_w2 s2) s8 (by exact Q8i Q50) (by exact Q6e rfl) rfl ?_; clear hr; intro a8 w8 hc hu hr hs
  have hb : Below w.heap.size w7 w8 := hc.below e_w.size l8.1
  revert s2; refine kp1 hs rfl ?_; intro s2
  clear s8
  replace s2 := hu _ _ _ (Q00 e_w2 s2)
  try simp only [List.set_cons_zero, List.set_cons_succ, lnkS] at s2
  replace e_w := e_w.below (Nat.le_refl _) hb
  clear e_w2
  clear hu hs hc hb
  refine Q11 hr (Q05) inferInstance ?_; clear hr; intro a9 w9 x hr hd hs
  revert s2; refine kp1 hs rfl ?_; intro s2
  have s3 := hd 3 rfl (by decide)
  replace e_w := e_w.trans x
  have e_w8 := x; clear hd hs x
  refine wpList_nil ?_
  refine et ?_
  refine wp_ret ?_
  refine Q0e ?_
  refine Q0f Try.results57 hr tu46 rfl Q2v (Q00 e_w8 s2) e_w ?_
  first | (rw [hrd]; exact ⟨_, _, rfl, ⟨_, rfl, Q7k⟩, s3⟩) | (rw [hrd]; exact ⟨_, _, rfl, ⟨_, rfl, OwnR.mono (OwnRA.own noGhost) hB⟩, s3⟩)
 have hl : ¬ l.length < 14 := by simp at hl; omega
 have w12 := Q0w l 12
 refine wp_skip ?_
 refine es ?_
 refine Q06 (l := [_, _, _, _, _]) (rest := [_]) 62 [[(0, none)], [(9, some 0)], [(10, some 1)], [(11, some 2)], []] [?b10_0, ?b10_1, ?b10_2, ?b10_3, ?b10_4] hr ?t10 ?o10 ?_
 case o10 =>
  apply oc0; intro A W hx hf
  exact Q01 (a0 := a4) (r0 hf)
  apply oc0; intro A W hx hf
  exact Q2e (12) tu22 Q0s (sarg s0 (show _ = _ from (q0 ?b10_0 A W 9 hf))) (ec A (.int .i64 12)) (by first | omega | decide | (simp; done) | (simp; omega))
  apply oc0; intro A W hx hf
  exact Q18 Qil (Qkc (AtW.now (q0 ?b10_1 A W 10 hf) (e_w.trans hx)) (by simp; omega))
  apply oc0; intro A W hx hf
  exact Q1e [(3, (.tmp 11)), (4, (.const (.int .i64 14)))] [(3, _), (4, _)] Qru rfl (PartsC.one (q0 ?b10_2 A W 11 hf) rfl (PartsC.one (ec A (.int .i64 14)) rfl (PartsC.nil))) (by first | rfl | simp [Q0l, *])
  apply oc0; intro A W hx hf
  exact Q0y (lnkS Q4q (.slice none 0 0)) [6, 6, 1, 1, 1] Qbw (by rfl) (by rfl) hx.size
  exact onn
 case t10 => exact inferInstance
 clear hr; intro a11 w11 x hr hd hs
 have z_w_w4 := e_w.size
 have z_w2_w4 := e_w2.size
 have l11_2 := PxS.lt (Q00 e_w2 s2)
 revert s2; revert s0; refine kp2 hs rfl ?_; intro s0 s2
 clear s7
 have s12 := fa ?b10_3 a11 w11 12 (hd 3 12 rfl)
 have s4 := fa ?b10_4 a11 w11 4 (hd 4 4 rfl)
 obtain ⟨g11_4, q11_4⟩ := PxN.at s4; clear s4; have n11_4 := PxS.lt q11_4
 replace q11_4 := PxS.mono q11_4 e_w.size
 have s4 := q11_4; clear q11_4
 replace e_w := e_w.trans x
 replace e_w2 := e_w2.trans x; clear hd hs x
 have z12 := PxS.lt s4
 have l12 := (show (g11_4 = 0 ∨ w.heap.size < g11_4) ∧ True from ⟨by omega, trivial⟩)
 have l12_2 := PxS.lt (Q00 e_w2 s2)
 refine Q19 (lnkS ⟨List.replicate 6 0, List.replicate 6 0, [], Q07 l 12, 14⟩ (.slice none 0 0)) hr Q2v s4 (Is.conv s12 (show _ = Value.agg (lnkS ⟨List.replicate 6 0, List.replicate 6 0, [], Q07 l 12, 14⟩ (.slice none 0 0)).flatten.toArray from by rw [Q3i]; rfl)) (by rfl) (by exact Q6e rfl) rfl ?_; clear hr; intro a12 w12 hc hu hr hs
 have hb : Below w.heap.size w11 w12 := hc.below e_w.size l12.1
 revert s4; revert s2; revert s0; refine kp3 hs rfl ?_; intro s0 s2 s4
 clear s12
 replace s2 := PxS.other (Q00 e_w2 s2) hc (by omega)
 replace s4 := hu _ _ _ s4
 try simp only [List.set_cons_zero, List.set_cons_succ, lnkS] at s4
 replace e_w := e_w.below (Nat.le_refl _) hb
 clear e_w2
 clear hu hs hc hb
 refine wpList_nil ?_
 refine es ?_
 refine Q06 (l := [_, _, _]) (rest := [_]) 62 [[(4, none)], [(13, some 0)], [(0, none)]] [?b13_0, ?b13_1, ?b13_2] hr ?t13 ?o13 ?_
 case o13 =>
  apply oc0; intro A W hx hf
  exact Q02 0 tu46 (k := 0) rfl Qg3 rfl (o1 s4 hx (r0 hf)) rfl
  apply oc0; intro A W hx hf
  exact Q7m tu43 Q0s (q0 ?b13_0 A W 13 hf) rfl
  apply oc0; intro A W hx hf
  exact Q01 (a0 := a12) (r0 hf)
  exact onn
 case t13 => exact inferInstance
 clear hr; intro a14 w14 x hr hd hs
 have u15 := mv s0 (fa ?b13_2 a14 w14 15 (hd 2 15 rfl))
 revert s4; revert s2; revert s0; refine kp3 hs rfl ?_; intro s0 s2 s4
 have s15 := u15; clear u15
 have s14 := fa ?b13_1 a14 w14 14 (hd 1 14 rfl)
 replace e_w := e_w.trans x
 have e_w12 := x; clear hd hs x
 have z15 := SxS.lt s14
 have l15 := (show (g11_4 = 0 ∨ w.heap.size < g11_4) ∧ True from ⟨by omega, trivial⟩)
 have l15_2 := PxS.lt (Q00 e_w12 s2)
 refine Q7n hr tu22 Q0s s14 rfl (Q00 e_w s15) ?_; clear hr; intro a15 w15 hc hu hr hs
 have hb : Below w.heap.size w14 w15 := hc.below e_w.size l15.1
 revert s4; revert s2; revert s0; refine kp3 hs rfl ?_; intro s0 s2 s4
 clear s15 s14
 replace s2 := PxS.other (Q00 e_w12 s2) hc (by omega)
 replace s4 := hu _ _ _ (Q00 e_w12 s4)
 try simp only [List.set_cons_zero, List.set_cons_succ, lnkS] at s4
 replace e_w := e_w.below (Nat.le_refl _) hb
 clear e_w12
 clear hu hs hc hb
 refine wpList_nil ?_
 replace s4 := PxS.cast s4 (show _ = lnkS ⟨l.take 6, List.replicate 6 0, [], Q07 l 12, 14⟩ (.slice none 0 0) from by rw [cpy6 (by omega)]; rfl)
 refine es ?_
 refine Q1s Q08 (fun w16 x => ?_)
 show wpAny _ _ _ _ 5 _ _ _
 replace e_w := e_w.trans x
 have e_w15 := x
 clear x
 refine Q60 (l := [_, _, _, _, _]) 62 _ [false, false, false, false, true] [4] [[(4, none)], [(17, some 0)], [(0, none)], [(19, some 2)], []] [?b17_0, ?b17_1, ?b17_2, ?b17_3, VP.top] (by kernel_rfl) rfl (by kernel_rfl) hr ?t17 ?o17 ?_
 case o17 =>
  apply lc0; intro A W hx hf
  exact Q02 1 tu46 (k := 1) rfl Qg3 rfl (o2 s4 e_w15 hx (r0 hf)) rfl
  apply lc0; intro A W hx hf
  exact Q7m tu43 Q0s (q0 ?b17_0 A W 17 hf) rfl
  apply lc0; intro A W hx hf
  exact Q01 (a0 := a15) (r0 hf)
  apply lc0; intro A W hx hf
  exact Q2e (6) tu22 Q0s (sarg s0 (show _ = _ from (q0 ?b17_2 A W 19 hf))) (ec A (.int .i64 6)) (by first | omega | decide | (simp; done) | (simp; omega))
  refine lcs ?_
  exact lcn
 case t17 => exact inferInstance
 clear hr; intro a18 w18 x hr hd hs
 have u19 := mv s0 (fa ?b17_2 a18 w18 19 (hd 2 19 rfl rfl))
 revert s4; revert s2; revert s0; refine kp3 hs rfl ?_; intro s0 s2 s4
 have s19 := u19; clear u19
 have s17 := fa ?b17_0 a18 w18 17 (hd 0 17 rfl rfl)
 have s18 := fa ?b17_1 a18 w18 18 (hd 1 18 rfl rfl)
 have s20 := AtW.base (fa ?b17_3 a18 w18 20 (hd 3 20 rfl rfl))
 replace e_w := e_w.trans x
 replace e_w15 := e_w15.trans x; clear hd hs x
 show wpList _ _ _ [_] _ _
 have z19 := SxS.lt s18
 have l19 := (show (g11_4 = 0 ∨ w.heap.size < g11_4) ∧ True from ⟨by omega, trivial⟩)
 have l19_2 := PxS.lt (Q00 e_w15 s2)
 refine Q7n hr tu22 Q0s s18 rfl (Q00 e_w s20) ?_; clear hr; intro a19 w19 hc hu hr hs
 have hb : Below w.heap.size w18 w19 := hc.below e_w.size l19.1
 revert s4; revert s2; revert s0; refine kp3 hs rfl ?_; intro s0 s2 s4
 clear s19 s17 s18 s20
 replace s2 := PxS.other (Q00 e_w15 s2) hc (by omega)
 replace s4 := hu _ _ _ (Q00 e_w15 s4)
 try simp only [List.set_cons_zero, List.set_cons_succ, lnkS] at s4
 replace e_w := e_w.below (Nat.le_refl _) hb
 clear e_w15
 clear hu hs hc hb
 refine wpList_nil ?_
 replace s4 := PxS.cast s4 (show _ = lnkS ⟨l.take 6, (l.drop 6).take 6, [], Q07 l 12, (12 : Int) + 2⟩ (.slice none 0 0) from by rw [cpy6 (by simp; omega)]; rfl)
 have gT : OwnRA 0 w.heap.size 94 tagR [] (.slice none 0 0) w19 := Qi6
 refine es ?_
 refine wp_block ?_
 refine Q14 (fun n A W => ∃ (k p : Nat) (ts : List TagL) (v : Value) (γ : Nat), n = k ∧ Fr 62 A ∧ Same Qf4 a19 A ∧ Ext w W ∧ (k ≤ 2) ∧ (ts.length + k = 2) ∧ (12 ≤ p) ∧ (p + 2 ≤ l.length) ∧ (Q0c l = Q29 l k p ts) ∧ (g11_4 ≠ γ) ∧ (g2_2 ≠ γ) ∧ (p + 4 * k = 20) ∧ (OwnRA γ w.heap.size 94 tagR ts) (v) W ∧ (PxS g2_2 w.heap.size [15] [(lnkS Q4q (.slice none 0 0)).flatten] 0) (A.eval (.tmp 2)) W ∧ (PxS g11_4 w.heap.size [6, 6, 1, 1, 1] (lnkS ⟨l.take 6, (l.drop 6).take 6, ts, Q07 l p, (p : Int) + 2⟩ v) 0) (A.eval (.tmp 4)) W) ?start20 ?_
 case start20 =>
  refine ⟨_, 2, 12, [], (.slice none 0 0), 0, rfl, hr, Same.rfl, e_w, (by omega), (by rfl), (by omega), (by omega), (by rfl), (by omega), (by omega), (by omega), gT, ?_, ?_⟩
  · exact s2
  · exact s4
 intro n20 a20 w20 hI
 clear e_w
 clear hr; obtain ⟨k, p, ts, v, γ, hn20, hr, hs, e_w, hk, hts, hp, hpl, hsr, ne4, ne2, hpk, gT, u2, u4⟩ := hI
 revert s0; refine kp1 hs rfl ?_; intro s0
 clear s2 s4
 have s2 := u2; clear u2
 have s4 := u4; clear u4
 replace s4 := PxS.cast s4 (show _ = [(l.take 6).map Q0t, ((l.drop 6).take 6).map Q0t, [v], [.int .i64 (Q07 l p)], [.int .i64 ((p : Int) + 2)]] from rfl)
 have m20 := hs; clear hs
 refine sq ?_
 refine sq ?_
 refine Q04 62 [[(4, none)], [(22, some 0)], [(23, some 1)]] [?b21_0, ?b21_1, ?b21_2] Q08 hr ?t21 ?o21 ?_
 case o21 =>
  apply oc0; intro A W hx hf
  exact Q02 3 tu46 (k := 3) rfl Q0m rfl (o1 s4 hx (r0 hf)) rfl
  apply oc0; intro A W hx hf
  exact Q0a tu3 rfl (q0 ?b21_0 A W 22 hf) rfl
  apply oc0; intro A W hx hf
  exact Q18 Qq7 (Qri (q0 ?b21_1 A W 23 hf))
  exact onn
 case t21 => exact inferInstance
 clear hr; intro a22 w22 x hr hd hs
 revert s4; revert s2; revert s0; refine kp3 hs rfl ?_; intro s0 s2 s4
 have s24 := fa ?b21_2 a22 w22 24 (hd 2 24 rfl)
 replace e_w := e_w.trans x
 have e_w20 := x
 replace m20 := m20.tr hs rfl; clear hd hs x
 refine et ?_
 refine wp_cond_split (show _ = _ from s24) (fun ht => ?_) (fun ht => ?_)
 ·
  have wp := Q0w l p
  refine wp_skip ?_
  refine et ?_
  refine wp_block ?_
  refine sq ?_
  refine sq ?_
  refine Q04 62 [[(4, none)], [(25, some 0)], [(26, some 1)], [(27, some 2)]] [?b24_0, ?b24_1, ?b24_2, ?b24_3] Q08 hr ?t24 ?o24 ?_
  case o24 =>
   apply oc0; intro A W hx hf
   exact Q02 2 tu46 (k := 2) rfl Q62 rfl (o2 s4 e_w20 hx (r0 hf)) rfl
   apply oc0; intro A W hx hf
   exact Qaw (Q0a tu44 rfl (q0 ?b24_0 A W 25 hf) rfl) (OwnRA.rw (Q00 (e_w20.trans hx) gT))
   apply oc0; intro A W hx hf
   exact Q6a tu44 (q0 ?b24_1 A W 26 hf)
   apply oc0; intro A W hx hf
   exact Q1i (q0 ?b24_2 A W 27 hf) (ec A (.int .i64 2))
   exact onn
  case t24 => exact inferInstance
  clear hr; intro a25 w25 x hr hd hs
  revert s4; revert s2; revert s0; refine kp3 hs rfl ?_; intro s0 s2 s4
  clear s24
  have s28 := fa ?b24_3 a25 w25 28 (hd 3 28 rfl)
  replace e_w := e_w.trans x
  replace e_w20 := e_w20.trans x
  replace m20 := m20.tr hs rfl; clear hd hs x
  refine et ?_
  refine wp_cond_split (show _ = _ from s28) (fun hk2 => ?_) (fun hk2 => ?_)
  ·
   have hk0 : k = 0 := by simp at hk2; omega
   rw [hk0] at hsr
   have hrd := hsr.trans (Q5s (by omega) ht)
   refine sq ?_
   refine Q06 (l := [_]) (rest := [_, _]) 62 [[]] [?b27_0] hr ?t27 ?o27 ?_
   case o27 =>
    apply oc0; intro A W hx hf
    exact Q13 Q9o
    exact onn
   case t27 => exact inferInstance
   clear hr; intro a28 w28 x hr hd hs
   revert s2; refine kp1 hs rfl ?_; intro s2
   clear s0 s4 s28
   have s29 := fa ?b27_0 a28 w28 29 (hd 0 29 rfl)
   replace e_w := e_w.trans x
   replace e_w20 := e_w20.trans x
   replace m20 := m20.tr hs rfl; clear hd hs x
   have z29 := PxS.lt (Q00 e_w20 s2)
   have l29 := (show (g2_2 = 0 ∨ w.heap.size < g2_2) ∧ True from ⟨by omega, trivial⟩)
   have l29_gT := OwnRA.lt (Q00 e_w20 gT)
   refine Q0k hr Q2v (Q00 e_w20 s2) s29 (by exact Q8i Q50) (by exact Q6e rfl) rfl ?_; clear hr; intro a29 w29 hc hu hr hs
   have hb : Below w.heap.size w28 w29 := hc.below e_w.size l29.1
   revert s2; refine kp1 hs rfl ?_; intro s2
   clear s29
   replace s2 := hu _ _ _ (Q00 e_w20 s2)
   try simp only [List.set_cons_zero, List.set_cons_succ, lnkS] at s2
   replace gT := OwnRA.other (Q00 e_w20 gT) hc (by omega)
   replace e_w := e_w.below (Nat.le_refl _) hb
   clear e_w20
   replace m20 := m20.tr hs rfl
   clear hu hs hc hb
   refine Q11 hr (Q05) inferInstance ?_; clear hr; intro a30 w30 x hr hd hs
   revert s2; refine kp1 hs rfl ?_; intro s2
   have s3 := hd 3 rfl (by decide)
   replace e_w := e_w.trans x
   have e_w29 := x
   replace m20 := m20.tr hs rfl; clear hd hs x
   refine wpList_nil ?_
   refine et ?_
   refine wp_ret ?_
   refine Q0e ?_
   refine Q1t ?_
   refine Q0e ?_
   refine Q1t ?_
   refine Q0e ?_
   refine Q0f Try.results57 hr tu46 rfl Q2v (Q00 e_w29 s2) e_w ?_
   first | (rw [hrd]; exact ⟨_, _, rfl, ⟨_, rfl, Q7k⟩, s3⟩) | (rw [hrd]; exact ⟨_, _, rfl, ⟨_, rfl, OwnR.mono (OwnRA.own (Q00 e_w29 gT)) hB⟩, s3⟩)
  have hk0 : k ≠ 0 := by simp at hk2; omega
  obtain ⟨kq, hkq⟩ : ∃ q, k = q + 1 := ⟨k - 1, by omega⟩
  rw [hkq] at hsr
  refine wp_skip ?_
  refine es ?_
  refine sq ?_
  refine Q04 62 [[(0, none)], [(30, some 0)], [(4, none)], [(32, some 2)], [(33, some 3)], [(31, some 1), (34, some 4)]] [?b31_0, ?b31_1, ?b31_2, ?b31_3, ?b31_4, ?b31_5] Q08 hr ?t31 ?o31 ?_
  case o31 =>
   apply oc0; intro A W hx hf
   exact Q01 (a0 := a25) (r0 hf)
   apply oc0; intro A W hx hf
   exact Q0v tu22 (p2 s0 e_w hx (q0 ?b31_0 A W 30 hf))
   apply oc0; intro A W hx hf
   exact Q02 4 tu46 (k := 4) rfl Q0m rfl (o2 s4 e_w20 hx (r0 hf)) rfl
   apply oc0; intro A W hx hf
   exact Q0a tu3 rfl (q0 ?b31_2 A W 32 hf) rfl
   apply oc0; intro A W hx hf
   exact Q0o (q0 ?b31_3 A W 33 hf) (ec A (.int .i64 4)) (by omega)
   apply oc0; intro A W hx hf
   exact Q1b (q0 ?b31_1 A W 31 hf) (q1 ?b31_4 A W 34 hf)
   exact onn
  case t31 => exact inferInstance
  clear hr; intro a32 w32 x hr hd hs
  revert s4; revert s2; revert s0; refine kp3 hs rfl ?_; intro s0 s2 s4
  clear s28
  have s35 := fa ?b31_5 a32 w32 35 (hd 5 35 rfl)
  replace e_w := e_w.trans x
  replace e_w20 := e_w20.trans x
  replace m20 := m20.tr hs rfl; clear hd hs x
  refine et ?_
  refine wp_cond_split (show _ = _ from s35) (fun h6 => ?_) (fun h6 => ?_)
  ·
   have h6 : l.length < p + 6 := by simp at h6; omega
   have hrd := hsr.trans (Q6t (by omega) ht h6)
   refine sq ?_
   refine Q06 (l := [_]) (rest := [_, _]) 62 [[]] [?b34_0] hr ?t34 ?o34 ?_
   case o34 =>
    apply oc0; intro A W hx hf
    exact Q13 Q9o
    exact onn
   case t34 => exact inferInstance
   clear hr; intro a35 w35 x hr hd hs
   revert s2; refine kp1 hs rfl ?_; intro s2
   clear s0 s4 s35
   have s36 := fa ?b34_0 a35 w35 36 (hd 0 36 rfl)
   replace e_w := e_w.trans x
   replace e_w20 := e_w20.trans x
   replace m20 := m20.tr hs rfl; clear hd hs x
   have z36 := PxS.lt (Q00 e_w20 s2)
   have l36 := (show (g2_2 = 0 ∨ w.heap.size < g2_2) ∧ True from ⟨by omega, trivial⟩)
   have l36_gT := OwnRA.lt (Q00 e_w20 gT)
   refine Q0k hr Q2v (Q00 e_w20 s2) s36 (by exact Q8i Q50) (by exact Q6e rfl) rfl ?_; clear hr; intro a36 w36 hc hu hr hs
   have hb : Below w.heap.size w35 w36 := hc.below e_w.size l36.1
   revert s2; refine kp1 hs rfl ?_; intro s2
   clear s36
   replace s2 := hu _ _ _ (Q00 e_w20 s2)
   try simp only [List.set_cons_zero, List.set_cons_succ, lnkS] at s2
   replace gT := OwnRA.other (Q00 e_w20 gT) hc (by omega)
   replace e_w := e_w.below (Nat.le_refl _) hb
   clear e_w20
   replace m20 := m20.tr hs rfl
   clear hu hs hc hb
   refine Q11 hr (Q05) inferInstance ?_; clear hr; intro a37 w37 x hr hd hs
   revert s2; refine kp1 hs rfl ?_; intro s2
   have s3 := hd 3 rfl (by decide)
   replace e_w := e_w.trans x
   have e_w36 := x
   replace m20 := m20.tr hs rfl; clear hd hs x
   refine wpList_nil ?_
   refine et ?_
   refine wp_ret ?_
   refine Q0e ?_
   refine Q1t ?_
   refine Q0e ?_
   refine Q1t ?_
   refine Q0e ?_
   refine Q0f Try.results57 hr tu46 rfl Q2v (Q00 e_w36 s2) e_w ?_
   first | (rw [hrd]; exact ⟨_, _, rfl, ⟨_, rfl, Q7k⟩, s3⟩) | (rw [hrd]; exact ⟨_, _, rfl, ⟨_, rfl, OwnR.mono (OwnRA.own (Q00 e_w36 gT)) hB⟩, s3⟩)
  have h6 : ¬ l.length < p + 6 := by simp at h6; omega
  replace hsr := hsr.trans (Q4m (by omega) ht h6)
  refine wp_skip ?_
  refine es ?_
  refine Q1s Q08 (fun w38 x => ?_)
  show wpAny _ _ _ _ 14 _ _ _
  replace e_w := e_w.trans x
  replace e_w20 := e_w20.trans x
  have e_w32 := x
  clear x
  refine Q60 (l := [_, _, _, _, _, _, _, _, _, _, _, _, _, _]) 62 _ [false, false, false, false, false, false, false, false, false, false, false, true, true, true] [11, 12, 13] [[(4, none)], [(37, some 0)], [(4, none)], [(39, some 2)], [(0, none)], [(4, none)], [(42, some 5)], [(41, some 4), (43, some 6)], [(44, some 7)], [(40, some 3), (45, some 8)], [(46, some 9)], [], [], []] [?b39_0, ?b39_1, ?b39_2, ?b39_3, ?b39_4, ?b39_5, ?b39_6, ?b39_7, ?b39_8, ?b39_9, ?b39_10, VP.top, VP.top, VP.top] (by kernel_rfl) rfl (by kernel_rfl) hr ?t39 ?o39 ?_
  case o39 =>
   apply lc0; intro A W hx hf
   exact Q02 2 tu46 (k := 2) rfl Q62 rfl (o2 s4 e_w20 hx (r0 hf)) rfl
   apply lc0; intro A W hx hf
   exact Qaw (Q0a tu44 rfl (q0 ?b39_0 A W 37 hf) rfl) (Q00 (e_w20.trans hx) gT)
   apply lc0; intro A W hx hf
   exact Q02 3 tu46 (k := 3) rfl Q0m rfl (o2 s4 e_w20 hx (r0 hf)) rfl
   apply lc0; intro A W hx hf
   exact Q0a tu3 rfl (q0 ?b39_2 A W 39 hf) rfl
   apply lc0; intro A W hx hf
   exact Q01 (a0 := a32) (r0 hf)
   apply lc0; intro A W hx hf
   exact Q02 4 tu46 (k := 4) rfl Q0m rfl (o2 s4 e_w20 hx (r0 hf)) rfl
   apply lc0; intro A W hx hf
   exact Q0a tu3 rfl (q0 ?b39_5 A W 42 hf) rfl
   apply lc0; intro A W hx hf
   exact Q2e (p + 2) tu22 Q0s (sarg s0 (show _ = _ from (q0 ?b39_4 A W 41 hf))) (Is.int (q1 ?b39_6 A W 43 hf) (by omega)) (by omega)
   apply lc0; intro A W hx hf
   exact Q18 Qil (Qkc (AtW.now (q0 ?b39_7 A W 44 hf) (e_w.trans hx)) (by simp; omega))
   apply lc0; intro A W hx hf
   exact Q1e [(0, (.tmp 40)), (1, (.tmp 45))] [(0, _), (1, _)] Qrv rfl (PartsC.one (q0 ?b39_3 A W 40 hf) rfl (PartsC.one (q1 ?b39_8 A W 45 hf) rfl (PartsC.nil))) (by first | rfl | simp [Q0l, *])
   apply lc0; intro A W hx hf
   exact Qh1 (R := tagR) [(.tmp 46)] [⟨Q07 l p, Q07 (l.drop (p + 2)) 0⟩] tu44 Q9q Qnn rfl rfl rfl (by decide) (PartsR.cons (Is.conv (q0 ?b39_9 A W 46 hf) rfl) (PartsR.nil)) hx.size
   refine lcs ?_
   refine lcs ?_
   refine lcs ?_
   exact lcn
  case t39 => exact inferInstance
  clear hr; intro a40 w40 x hr hd hs
  have z_w_w38 := e_w.size
  have z_w20_w38 := e_w20.size
  have z_w32_w38 := e_w32.size
  have l40_2 := PxS.lt (Q00 e_w20 s2)
  have l40_4 := PxS.lt (Q00 e_w20 s4)
  have l40_gT := OwnRA.lt (Q00 e_w20 gT)
  have u41 := mv s0 (fa ?b39_4 a40 w40 41 (hd 4 41 rfl rfl))
  revert s4; revert s2; revert s0; refine kp3 hs rfl ?_; intro s0 s2 s4
  clear s35
  have s41 := u41; clear u41
  have s37 := fa ?b39_0 a40 w40 37 (hd 0 37 rfl rfl)
  have s38 := fa ?b39_1 a40 w40 38 (hd 1 38 rfl rfl)
  have s39 := fa ?b39_2 a40 w40 39 (hd 2 39 rfl rfl)
  have s40 := fa ?b39_3 a40 w40 40 (hd 3 40 rfl rfl)
  have s42 := fa ?b39_5 a40 w40 42 (hd 5 42 rfl rfl)
  have s43 := fa ?b39_6 a40 w40 43 (hd 6 43 rfl rfl)
  have s44 := AtW.base (fa ?b39_7 a40 w40 44 (hd 7 44 rfl rfl))
  have s45 := fa ?b39_8 a40 w40 45 (hd 8 45 rfl rfl)
  have s46 := fa ?b39_9 a40 w40 46 (hd 9 46 rfl rfl)
  have s47 := fa ?b39_10 a40 w40 47 (hd 10 47 rfl rfl)
  obtain ⟨g40_47, q40_47⟩ := OwnR.at s47; clear s47; have n40_47 := OwnRA.lt q40_47
  replace q40_47 := OwnRA.mono q40_47 e_w.size
  have s47 := q40_47; clear q40_47
  replace e_w := e_w.trans x
  replace e_w20 := e_w20.trans x
  clear e_w32
  replace m20 := m20.tr hs rfl; clear hd hs x
  show wpList _ _ _ [_, _, _] _ _
  have l41 := OwnRA.lt s38
  have l41_2 := PxS.lt (Q00 e_w20 s2)
  have l41_4 := PxS.lt (Q00 e_w20 s4)
  refine Qbs hr (by decide) tu44 Qnm rfl s38 (OwnRA.rw s47) e_w.size (by simp; omega) ?_; clear hr; intro g41 a41 w41 hg41 hc hr hd hs
  have hb := hc.below e_w.size l41.1
  revert s4; revert s2; revert s0; refine kp3 hs rfl ?_; intro s0 s2 s4
  clear s41 s37 s38 s39 s40 s42 s43 s44 s45 s46 s47
  replace s2 := PxS.other (Q00 e_w20 s2) hc (by omega)
  replace s4 := PxS.other (Q00 e_w20 s4) hc (by omega)
  have s48 := hd
  obtain ⟨vT, hsv⟩ : ∃ v, v = a41.eval (.tmp 48) := ⟨_, rfl⟩; have gT := s48; rw [← hsv] at gT; replace s48 : Is vT (a41.eval (.tmp 48)) w41 := hsv.symm; clear hsv
  replace e_w := e_w.below (Nat.le_refl _) hb
  clear e_w20
  replace m20 := m20.tr hs rfl
  clear hd hs hb hc
  refine Q11 hr (Q02 2 tu46 (k := 2) rfl Q62 rfl s4 rfl) inferInstance ?_; clear hr; intro a42 w42 x hr hd hs
  revert s48; revert s4; revert s2; revert s0; refine kp4 hs rfl ?_; intro s0 s2 s4 s48
  have s49 := hd 49 rfl (by decide)
  replace e_w := e_w.trans x
  have e_w41 := x
  replace m20 := m20.tr hs rfl; clear hd hs x
  have z43 := PxS.lt s49
  have l43 := (show (g11_4 = 0 ∨ w.heap.size < g11_4) ∧ True from ⟨by omega, trivial⟩)
  have l43_2 := PxS.lt (Q00 e_w41 s2)
  have l43_gT := OwnRA.lt (Q00 e_w41 gT)
  refine Q1z hr Q62 s49 (Q00 e_w41 s48) (by exact Qg8 (OwnRA.rw gT)) rfl ?_; clear hr; intro a43 w43 hc hu hr hs
  have hb : Below w.heap.size w42 w43 := hc.below e_w.size l43.1
  revert s4; revert s2; revert s0; refine kp3 hs rfl ?_; intro s0 s2 s4
  clear s48 s49
  replace s2 := PxS.other (Q00 e_w41 s2) hc (by omega)
  replace s4 := hu _ _ _ (Q00 e_w41 s4)
  try simp only [List.set_cons_zero, List.set_cons_succ, lnkS] at s4
  replace gT := OwnRA.other (Q00 e_w41 gT) hc (by omega)
  replace e_w := e_w.below (Nat.le_refl _) hb
  clear e_w41
  replace m20 := m20.tr hs rfl
  clear hu hs hc hb
  refine wpList_nil ?_
  replace gT := OwnRA.cast gT (show _ = ts ++ [⟨Q07 l p, Q07 l (p + 2)⟩] from by rw [Q3i])
  replace s4 := PxS.cast s4 (show _ = [(l.take 6).map Q0t, ((l.drop 6).take 6).map Q0t, [vT], [.int .i64 (Q07 l p)], [.int .i64 ((p : Int) + 2)]] from rfl)
  refine es ?_
  refine Q06 (l := [_, _, _, _, _, _, _]) (rest := [_]) 62 [[(0, none)], [(4, none)], [(51, some 1)], [(52, some 2)], [(50, some 0), (53, some 3)], [(54, some 4)], [(4, none)]] [?b44_0, ?b44_1, ?b44_2, ?b44_3, ?b44_4, ?b44_5, ?b44_6] hr ?t44 ?o44 ?_
  case o44 =>
   apply oc0; intro A W hx hf
   exact Q01 (a0 := a43) (r0 hf)
   apply oc0; intro A W hx hf
   exact Q02 4 tu46 (k := 4) rfl Q0m rfl (o1 s4 hx (r0 hf)) rfl
   apply oc0; intro A W hx hf
   exact Q0a tu3 rfl (q0 ?b44_1 A W 51 hf) rfl
   apply oc0; intro A W hx hf
   exact Q0o (q0 ?b44_2 A W 52 hf) (ec A (.int .i64 2)) (by omega)
   apply oc0; intro A W hx hf
   exact Q2e (p + 4) tu22 Q0s (sarg s0 (show _ = _ from (q0 ?b44_0 A W 50 hf))) (Is.int (q1 ?b44_3 A W 53 hf) (by omega)) (by omega)
   apply oc0; intro A W hx hf
   exact Q18 Qil (Qkc (AtW.now (q0 ?b44_4 A W 54 hf) (e_w.trans hx)) (by simp; omega))
   apply oc0; intro A W hx hf
   exact Q02 3 tu46 (k := 3) rfl Q0m rfl (o1 s4 hx (r0 hf)) rfl
   exact onn
  case t44 => exact inferInstance
  clear hr; intro a45 w45 x hr hd hs
  revert s4; revert s2; revert s0; refine kp3 hs rfl ?_; intro s0 s2 s4
  have s55 := fa ?b44_5 a45 w45 55 (hd 5 55 rfl)
  have s56 := fa ?b44_6 a45 w45 56 (hd 6 56 rfl)
  replace e_w := e_w.trans x
  have e_w43 := x
  replace m20 := m20.tr hs rfl; clear hd hs x
  have z46 := PxS.lt s56
  have l46 := (show (g11_4 = 0 ∨ w.heap.size < g11_4) ∧ True from ⟨by omega, trivial⟩)
  have l46_2 := PxS.lt (Q00 e_w43 s2)
  have l46_gT := OwnRA.lt (Q00 e_w43 gT)
  refine Q1z hr Q0m s56 (Is.int s55 (show _ = Q07 l (p + 4) from by rw [Q3i])) (by rfl) rfl ?_; clear hr; intro a46 w46 hc hu hr hs
  have hb : Below w.heap.size w45 w46 := hc.below e_w.size l46.1
  revert s4; revert s2; revert s0; refine kp3 hs rfl ?_; intro s0 s2 s4
  clear s55 s56
  replace s2 := PxS.other (Q00 e_w43 s2) hc (by omega)
  replace s4 := hu _ _ _ (Q00 e_w43 s4)
  try simp only [List.set_cons_zero, List.set_cons_succ, lnkS] at s4
  replace gT := OwnRA.other (Q00 e_w43 gT) hc (by omega)
  replace e_w := e_w.below (Nat.le_refl _) hb
  clear e_w43
  replace m20 := m20.tr hs rfl
  clear hu hs hc hb
  refine wpList_nil ?_
  replace s4 := PxS.cast s4 (show _ = [(l.take 6).map Q0t, ((l.drop 6).take 6).map Q0t, [vT], [.int .i64 (Q07 l (p + 4))], [.int .i64 ((p : Int) + 2)]] from rfl)
  refine et ?_
  refine Q06 (l := [_, _, _, _]) (rest := [_]) 62 [[(4, none)], [(57, some 0)], [(58, some 1)], [(4, none)]] [?b47_0, ?b47_1, ?b47_2, ?b47_3] hr ?t47 ?o47 ?_
  case o47 =>
   apply oc0; intro A W hx hf
   exact Q02 4 tu46 (k := 4) rfl Q0m rfl (o1 s4 hx (r0 hf)) rfl
   apply oc0; intro A W hx hf
   exact Q0a tu3 rfl (q0 ?b47_0 A W 57 hf) rfl
   apply oc0; intro A W hx hf
   exact Q0o (q0 ?b47_1 A W 58 hf) (ec A (.int .i64 4)) (by omega)
   apply oc0; intro A W hx hf
   exact Q02 4 tu46 (k := 4) rfl Q0m rfl (o1 s4 hx (r0 hf)) rfl
   exact onn
  case t47 => exact inferInstance
  clear hr; intro a48 w48 x hr hd hs
  revert s4; revert s2; revert s0; refine kp3 hs rfl ?_; intro s0 s2 s4
  have s59 := fa ?b47_2 a48 w48 59 (hd 2 59 rfl)
  have s60 := fa ?b47_3 a48 w48 60 (hd 3 60 rfl)
  replace e_w := e_w.trans x
  have e_w46 := x
  replace m20 := m20.tr hs rfl; clear hd hs x
  have z49 := PxS.lt s60
  have l49 := (show (g11_4 = 0 ∨ w.heap.size < g11_4) ∧ True from ⟨by omega, trivial⟩)
  have l49_2 := PxS.lt (Q00 e_w46 s2)
  have l49_gT := OwnRA.lt (Q00 e_w46 gT)
  refine Q1z hr Q0m s60 (Is.int s59 (show _ = ((p + 4 : Nat) : Int) + 2 from by omega)) (by rfl) rfl ?_; clear hr; intro a49 w49 hc hu hr hs
  have hb : Below w.heap.size w48 w49 := hc.below e_w.size l49.1
  revert s4; revert s2; revert s0; refine kp3 hs rfl ?_; intro s0 s2 s4
  clear s59 s60
  replace s2 := PxS.other (Q00 e_w46 s2) hc (by omega)
  replace s4 := hu _ _ _ (Q00 e_w46 s4)
  try simp only [List.set_cons_zero, List.set_cons_succ, lnkS] at s4
  replace gT := OwnRA.other (Q00 e_w46 gT) hc (by omega)
  replace e_w := e_w.below (Nat.le_refl _) hb
  clear e_w46
  replace m20 := m20.tr hs rfl
  clear hu hs hc hb
  refine wpList_nil ?_
  refine Q0x ?_
  refine et ?_
  refine ⟨(fun (k p : Nat) (ts : List TagL) (v : Value) (γ : Nat) => k) (kq) (p + 4) (ts ++ [⟨Q07 l p, Q07 l (p + 2)⟩]) (vT) (0), ?_, ?_⟩
  · (try dsimp only); omega
  refine ⟨kq, p + 4, ts ++ [⟨Q07 l p, Q07 l (p + 2)⟩], vT, g41, rfl, hr, m20, e_w, (by omega), (by simp; omega), (by omega), (by omega), (by exact hsr), (by omega), (by omega), (by omega), gT, ?_, ?_⟩
  · exact s2
  · exact s4
 have hrd := hsr.trans (Q3j (by omega) ht)
 refine wp_exit ?_
 refine Q0g ?_
 refine Q0g ?_
 refine Q1a ?_
 refine es ?_
 refine Q06 (l := [_]) (rest := [_, _]) 62 [[(4, none)]] [?b50_0] hr ?t50 ?o50 ?_
 case o50 =>
  apply oc0; intro A W hx hf
  exact Q0b 5 tu46 rfl Q2v (o2 s4 e_w20 hx (r0 hf)) rfl
  exact onn
 case t50 => exact inferInstance
 clear hr; intro a51 w51 x hr hd hs
 revert s2; refine kp1 hs rfl ?_; intro s2
 clear s0 s4 s24
 have s61 := fa ?b50_0 a51 w51 61 (hd 0 61 rfl)
 replace e_w := e_w.trans x
 replace e_w20 := e_w20.trans x; clear hd hs x
 have z52 := PxS.lt (Q00 e_w20 s2)
 have l52 := (show (g2_2 = 0 ∨ w.heap.size < g2_2) ∧ True from ⟨by omega, trivial⟩)
 have l52_gT := OwnRA.lt (Q00 e_w20 gT)
 refine Q0k hr Q2v (Q00 e_w20 s2) (Is.conv s61 (Qnz (L := ⟨l.take 6, (l.drop 6).take 6, ts, Q07 l p, (p : Int) + 2⟩) (v := v))) (by exact Q8i ⟨by simp; omega, by simp; omega⟩) (by exact Q6e (Qg8 (OwnRA.rw gT))) rfl ?_; clear hr; intro a52 w52 hc hu hr hs
 have hb : Below w.heap.size w51 w52 := hc.below e_w.size l52.1
 revert s2; refine kp1 hs rfl ?_; intro s2
 clear s61
 replace s2 := hu _ _ _ (Q00 e_w20 s2)
 try simp only [List.set_cons_zero, List.set_cons_succ, lnkS] at s2
 replace gT := OwnRA.other (Q00 e_w20 gT) hc (by omega)
 replace e_w := e_w.below (Nat.le_refl _) hb
 clear e_w20
 clear hu hs hc hb
 refine Q11 hr (Q05) inferInstance ?_; clear hr; intro a53 w53 x hr hd hs
 revert s2; refine kp1 hs rfl ?_; intro s2
 have s3 := hd 3 rfl (by decide)
 replace e_w := e_w.trans x
 have e_w52 := x; clear hd hs x
 refine wpList_nil ?_
 refine et ?_
 refine wp_ret ?_
 refine Q0f Try.results57 hr tu46 rfl Q2v (Q00 e_w52 s2) e_w ?_
 first | (rw [hrd]; exact ⟨_, _, rfl, ⟨_, rfl, Q7k⟩, s3⟩) | (rw [hrd]; exact ⟨_, _, rfl, ⟨_, rfl, OwnR.mono (OwnRA.own (Q00 e_w52 gT)) hB⟩, s3⟩)

def Qcl : List Tmp := [2, 3, 23, 24, 25, 26, 27, 28, 29, 30, 31, 32, 33, 34, 35, 36, 37, 38, 39, 40, 41, 42, 43, 44, 45, 46, 47, 48, 49, 50, 51, 52, 53, 54, 55]
theorem Qkd {x0 : Value} {w : World} {L : LinkL} (h0 : (LinkV L) x0 w) (hL : Q2i L) :
    Calls Try.prog 30 #[x0] w (Ret (Is (.bool (Q17 L))) w) := by
 obtain ⟨v, eh0, hT, hvh0⟩ := h0
 replace h0 : Is (LnkA L v) x0 w := eh0
 have htl : L.tags.length ≤ 9223372036854775807 := Rw.len_le hT
 refine enter Try.func30 rfl Try.ntmps30 (k := 1) rfl (by decide) (fun a0 hr hargs => ?_)
 have s0 := sarg h0 (hargs 0 (by decide))
 clear hargs
 refine sq ?_
 refine Q04 56 [[(0, none)], []] [?b1_0, ?b1_1] Q08 hr ?t1 ?o1 ?_
 case o1 =>
  apply oc0; intro A W hx hf
  exact Q1y (lnkS L v) [6, 6, 1, 1, 1] (o1 s0 hx (r0 hf)) (by exact Q4l hL) hx.size
  apply oc0; intro A W hx hf
  exact Q05
  exact onn
 case t1 => exact inferInstance
 clear hr; intro a2 w2 x hr hd hs
 clear s0
 have s1 := fa ?b1_0 a2 w2 1 (hd 0 1 rfl)
 obtain ⟨g2_1, q2_1⟩ := PxN.at s1; clear s1; have n2_1 := PxS.lt q2_1
 have s1 := q2_1; clear q2_1
 have e_w := x; clear hd hs x
 refine es ?_
 refine sq ?_
 refine Q04 56 [[(1, none)], [(4, some 0)], [(5, some 1)], [(6, some 2)], [(7, some 3)], [(1, none), (8, some 4)], [(9, some 5), (8, some 4)], [(10, some 6), (8, some 4)], [(8, some 4), (11, some 7)], [(12, some 8)], [(1, none), (13, some 9)], [(14, some 10), (13, some 9)], [(15, some 11), (13, some 9)], [(13, some 9), (16, some 12)], [(17, some 13)], [(1, none), (18, some 14)], [(19, some 15), (18, some 14)], [(20, some 16), (18, some 14)], [(18, some 14), (21, some 17)]] [?b3_0, ?b3_1, ?b3_2, ?b3_3, ?b3_3, ?b3_5, ?b3_6, ?b3_7, ?b3_8, ?b3_8, ?b3_10, ?b3_11, ?b3_12, ?b3_13, ?b3_13, ?b3_15, ?b3_16, ?b3_17, ?b3_18] Q08 hr ?t3 ?o3 ?_
 case o3 =>
  apply oc0; intro A W hx hf
  exact Q02 2 tu46 (k := 2) rfl Q62 rfl (o1 s1 hx (r0 hf)) rfl
  apply oc0; intro A W hx hf
  exact Qaw (Q0a tu44 rfl (q0 ?b3_0 A W 4 hf) rfl) (Q00 (e_w.trans hx) hT)
  apply oc0; intro A W hx hf
  exact Q6a tu44 (q0 ?b3_1 A W 5 hf)
  apply oc0; intro A W hx hf
  exact Q3m (q0 ?b3_2 A W 6 hf) (ec A (.int .i64 2))
  apply oc0; intro A W hx hf
  exact Q0h (q0 ?b3_3 A W 7 hf)
  refine ocg 8 ?_ (fun A W hx hf => ?_) ?_
  rfl
  exact gd_f (q1 ?b3_3 A W 8 hf) (fun hc => Q02 3 tu46 (k := 3) rfl Q0m rfl (o1 s1 hx (r0 hf)) rfl)
  refine ocg 8 ?_ (fun A W hx hf => ?_) ?_
  rfl
  exact gd_f (q1 ?b3_3 A W 8 hf) (fun hc => Q0a tu3 rfl (G.get (q0 ?b3_5 A W 9 hf) hc) rfl)
  refine ocg 8 ?_ (fun A W hx hf => ?_) ?_
  rfl
  exact gd_f (q1 ?b3_3 A W 8 hf) (fun hc => Q1b (G.get (q0 ?b3_6 A W 10 hf) hc) (ec A (.int .i64 0)))
  apply oc0; intro A W hx hf
  exact Q3o (q0 ?b3_3 A W 8 hf) (q1 ?b3_7 A W 11 hf)
  apply oc0; intro A W hx hf
  exact Q0h (q0 ?b3_8 A W 12 hf)
  refine ocg 13 ?_ (fun A W hx hf => ?_) ?_
  rfl
  exact gd_f (q1 ?b3_8 A W 13 hf) (fun hc => Q02 3 tu46 (k := 3) rfl Q0m rfl (o1 s1 hx (r0 hf)) rfl)
  refine ocg 13 ?_ (fun A W hx hf => ?_) ?_
  rfl
  exact gd_f (q1 ?b3_8 A W 13 hf) (fun hc => Q0a tu3 rfl (G.get (q0 ?b3_10 A W 14 hf) hc) rfl)
  refine ocg 13 ?_ (fun A W hx hf => ?_) ?_
  rfl
  exact gd_f (q1 ?b3_8 A W 13 hf) (fun hc => Q3m (G.get (q0 ?b3_11 A W 15 hf) hc) (ec A (.int .i64 65535)))
  apply oc0; intro A W hx hf
  exact Q3o (q0 ?b3_8 A W 13 hf) (q1 ?b3_12 A W 16 hf)
  apply oc0; intro A W hx hf
  exact Q0h (q0 ?b3_13 A W 17 hf)
  refine ocg 18 ?_ (fun A W hx hf => ?_) ?_
  rfl
  exact gd_f (q1 ?b3_13 A W 18 hf) (fun hc => Q02 3 tu46 (k := 3) rfl Q0m rfl (o1 s1 hx (r0 hf)) rfl)
  refine ocg 18 ?_ (fun A W hx hf => ?_) ?_
  rfl
  exact gd_f (q1 ?b3_13 A W 18 hf) (fun hc => Q0a tu3 rfl (G.get (q0 ?b3_15 A W 19 hf) hc) rfl)
  refine ocg 18 ?_ (fun A W hx hf => ?_) ?_
  rfl
  exact gd_f (q1 ?b3_13 A W 18 hf) (fun hc => Q18 Qmq (Qkb (G.get (q0 ?b3_16 A W 20 hf) hc)))
  apply oc0; intro A W hx hf
  exact Q3o (q0 ?b3_13 A W 18 hf) (q1 ?b3_17 A W 21 hf)
  exact onn
 case t3 => exact inferInstance
 clear hr; intro a4 w4 x hr hd hs
 revert s1; refine kp1 hs rfl ?_; intro s1
 have s22 := fa ?b3_18 a4 w4 22 (hd 18 22 rfl)
 replace e_w := e_w.trans x
 have e_w2 := x; clear hd hs x
 refine et ?_
 refine wp_cond_split (show _ = _ from s22) (fun hc9 => ?_) (fun hc9 => ?_)
 ·
  rw [Qn4] at hc9
  have hr9 := Qdl hc9
  refine sq ?_
  refine Q04 56 [[]] [?b6_0] Q08 hr ?t6 ?o6 ?_
  case o6 =>
   apply oc0; intro A W hx hf
   exact Q05
   exact onn
  case t6 => exact inferInstance
  clear hr; intro a7 w7 x hr hd hs
  clear s1 s22
  have s2 := fa ?b6_0 a7 w7 2 (hd 0 2 rfl)
  replace e_w := e_w.trans x
  clear e_w2; clear hd hs x
  refine et ?_
  refine wp_ret ?_
  refine Q0e ?_
  refine Q0r Try.results30 hr e_w ?_
  first | exact Is.bool s2 hr9.symm | exact Is.bool s2 (by rw [hr9]; exact (Qjb hlt hok).symm) | exact Is.bool s2 (by rw [hr9]; exact hall.symm)
 rw [Qn4] at hc9
 obtain ⟨hr9, ht2, hty⟩ := Qay hc9
 refine wp_skip ?_
 refine es ?_
 refine sq ?_
 refine Q04 56 [[]] [?b8_0] Q08 hr ?t8 ?o8 ?_
 case o8 =>
  apply oc0; intro A W hx hf
  exact Q05
  exact onn
 case t8 => exact inferInstance
 clear hr; intro a9 w9 x hr hd hs
 revert s1; refine kp1 hs rfl ?_; intro s1
 clear s22
 have s3 := fa ?b8_0 a9 w9 3 (hd 0 3 rfl)
 replace e_w := e_w.trans x
 replace e_w2 := e_w2.trans x; clear hd hs x
 refine et ?_
 refine wp_block ?_
 refine Q14 (fun n A W => ∃ (i : Nat), n = L.tags.length - i ∧ Fr 56 A ∧ Same Qcl a9 A ∧ Ext w W ∧ (i ≤ L.tags.length) ∧ ((L.tags.take i).all Q57 = true) ∧ (PxS g2_1 w.heap.size [6, 6, 1, 1, 1] (lnkS L v) 0) (A.eval (.tmp 1)) W ∧ (Is (.int .i64 (i : Int))) (A.eval (.tmp 3)) W) ?start10 ?_
 case start10 =>
  refine ⟨_, 0, rfl, hr, Same.rfl, e_w, (by omega), (by rfl), ?_, ?_⟩
  · exact (Q00 e_w2 s1)
  · first | exact s3 | exact Is.int s3 (by first | omega | simp) | exact Is.bool s3 (by first | omega | simp)
 intro n10 a10 w10 hI
 clear e_w
 clear e_w2
 clear hr; obtain ⟨i, hn10, hr, hs, e_w, hi, hall, u1, u3⟩ := hI
 clear s1 s3
 have s1 := u1; clear u1
 have s3 := u3; clear u3
 have m10 := hs; clear hs
 refine sq ?_
 refine sq ?_
 refine Q04 56 [[(3, none)], [(1, none)], [(24, some 1)], [(25, some 2)], [(23, some 0), (26, some 3)]] [?b11_0, ?b11_1, ?b11_2, ?b11_3, ?b11_4] Q08 hr ?t11 ?o11 ?_
 case o11 =>
  apply oc0; intro A W hx hf
  exact Q01 (a0 := a10) (r0 hf)
  apply oc0; intro A W hx hf
  exact Q02 2 tu46 (k := 2) rfl Q62 rfl (o1 s1 hx (r0 hf)) rfl
  apply oc0; intro A W hx hf
  exact Qaw (Q0a tu44 rfl (q0 ?b11_1 A W 24 hf) rfl) (Q00 (e_w.trans hx) hT)
  apply oc0; intro A W hx hf
  exact Q6a tu44 (q0 ?b11_2 A W 25 hf)
  apply oc0; intro A W hx hf
  exact Q1b (p1 s3 hx (q0 ?b11_0 A W 23 hf)) (q1 ?b11_3 A W 26 hf)
  exact onn
 case t11 => exact inferInstance
 clear hr; intro a12 w12 x hr hd hs
 revert s3; revert s1; refine kp2 hs rfl ?_; intro s1 s3
 have s27 := fa ?b11_4 a12 w12 27 (hd 4 27 rfl)
 replace e_w := e_w.trans x
 have e_w10 := x
 replace m10 := m10.tr hs rfl; clear hd hs x
 refine et ?_
 refine wp_cond_split (show _ = _ from s27) (fun hlt => ?_) (fun hlt => ?_)
 ·
  have hlt : i < L.tags.length := by simp at hlt; omega
  refine wp_skip ?_
  refine es ?_
  refine wp_block ?_
  refine sq ?_
  refine Q04 56 [[(1, none)], [(30, some 0)], [(3, none)], [(31, some 1), (32, some 2)], [(33, some 3)], [(34, some 4)], [(35, some 5)], [(36, some 6)], [(37, some 7)], [(1, none), (38, some 8)], [(39, some 9), (38, some 8)], [(3, none), (38, some 8)], [(40, some 10), (41, some 11), (38, some 8)], [(42, some 12), (38, some 8)], [(43, some 13), (38, some 8)], [(44, some 14), (38, some 8)], [(38, some 8), (45, some 15)], [(46, some 16)], [(1, none), (47, some 17)], [(48, some 18), (47, some 17)], [(3, none), (47, some 17)], [(49, some 19), (50, some 20), (47, some 17)], [(51, some 21), (47, some 17)], [(52, some 22), (47, some 17)], [(53, some 23), (47, some 17)], [(47, some 17), (54, some 24)]] [?b14_0, ?b14_1, ?b14_2, ?b14_3, ?b14_4, ?b14_5, ?b14_6, ?b14_7, ?b14_7, ?b14_9, ?b14_10, ?b14_11, ?b14_12, ?b14_13, ?b14_14, ?b14_15, ?b14_16, ?b14_16, ?b14_18, ?b14_19, ?b14_20, ?b14_21, ?b14_22, ?b14_23, ?b14_24, ?b14_25] Q08 hr ?t14 ?o14 ?_
  case o14 =>
   apply oc0; intro A W hx hf
   exact Q02 2 tu46 (k := 2) rfl Q62 rfl (o2 s1 e_w10 hx (r0 hf)) rfl
   apply oc0; intro A W hx hf
   exact Qaw (Q0a tu44 rfl (q0 ?b14_0 A W 30 hf) rfl) (Q00 (e_w.trans hx) hT)
   apply oc0; intro A W hx hf
   exact Q01 (a0 := a12) (r0 hf)
   apply oc0; intro A W hx hf
   exact Q5m (_) tu44 Q9q (q0 ?b14_1 A W 31 hf) (p2 s3 e_w10 hx (q1 ?b14_2 A W 32 hf)) (by exact hlt)
   apply oc0; intro A W hx hf
   exact Q2s tu94 (i := 0) rfl Q0m rfl (q0 ?b14_3 A W 33 hf)
   apply oc0; intro A W hx hf
   exact Q7j tu3 rfl (q0 ?b14_4 A W 34 hf)
   apply oc0; intro A W hx hf
   exact Q18 Qmq (Qkb (q0 ?b14_5 A W 35 hf))
   apply oc0; intro A W hx hf
   exact Q43 (q0 ?b14_6 A W 36 hf)
   apply oc0; intro A W hx hf
   exact Q0h (q0 ?b14_7 A W 37 hf)
   refine ocg 38 ?_ (fun A W hx hf => ?_) ?_
   rfl
   exact gd_f (q1 ?b14_7 A W 38 hf) (fun hc => Q02 2 tu46 (k := 2) rfl Q62 rfl (o2 s1 e_w10 hx (r0 hf)) rfl)
   refine ocg 38 ?_ (fun A W hx hf => ?_) ?_
   rfl
   exact gd_f (q1 ?b14_7 A W 38 hf) (fun hc => Qaw (Q0a tu44 rfl (G.get (q0 ?b14_9 A W 39 hf) hc) rfl) (Q00 (e_w.trans hx) hT))
   refine ocg 38 ?_ (fun A W hx hf => ?_) ?_
   rfl
   exact gd_f (q1 ?b14_7 A W 38 hf) (fun hc => Q01 (a0 := a12) (r0 hf))
   refine ocg 38 ?_ (fun A W hx hf => ?_) ?_
   rfl
   exact gd_f (q2 ?b14_7 A W 38 hf) (fun hc => Q5m (_) tu44 Q9q (G.get (q0 ?b14_10 A W 40 hf) hc) (p2 s3 e_w10 hx (G.get (q1 ?b14_11 A W 41 hf) hc)) (by exact hlt))
   refine ocg 38 ?_ (fun A W hx hf => ?_) ?_
   rfl
   exact gd_f (q1 ?b14_7 A W 38 hf) (fun hc => Q2s tu94 (i := 1) rfl Q0m rfl (G.get (q0 ?b14_12 A W 42 hf) hc))
   refine ocg 38 ?_ (fun A W hx hf => ?_) ?_
   rfl
   exact gd_f (q1 ?b14_7 A W 38 hf) (fun hc => Q7j tu3 rfl (G.get (q0 ?b14_13 A W 43 hf) hc))
   refine ocg 38 ?_ (fun A W hx hf => ?_) ?_
   rfl
   exact gd_f (q1 ?b14_7 A W 38 hf) (fun hc => Q1b (G.get (q0 ?b14_14 A W 44 hf) hc) (ec A (.int .i64 0)))
   apply oc0; intro A W hx hf
   exact Q3o (q0 ?b14_7 A W 38 hf) (q1 ?b14_15 A W 45 hf)
   apply oc0; intro A W hx hf
   exact Q0h (q0 ?b14_16 A W 46 hf)
   refine ocg 47 ?_ (fun A W hx hf => ?_) ?_
   rfl
   exact gd_f (q1 ?b14_16 A W 47 hf) (fun hc => Q02 2 tu46 (k := 2) rfl Q62 rfl (o2 s1 e_w10 hx (r0 hf)) rfl)
   refine ocg 47 ?_ (fun A W hx hf => ?_) ?_
   rfl
   exact gd_f (q1 ?b14_16 A W 47 hf) (fun hc => Qaw (Q0a tu44 rfl (G.get (q0 ?b14_18 A W 48 hf) hc) rfl) (Q00 (e_w.trans hx) hT))
   refine ocg 47 ?_ (fun A W hx hf => ?_) ?_
   rfl
   exact gd_f (q1 ?b14_16 A W 47 hf) (fun hc => Q01 (a0 := a12) (r0 hf))
   refine ocg 47 ?_ (fun A W hx hf => ?_) ?_
   rfl
   exact gd_f (q2 ?b14_16 A W 47 hf) (fun hc => Q5m (_) tu44 Q9q (G.get (q0 ?b14_19 A W 49 hf) hc) (p2 s3 e_w10 hx (G.get (q1 ?b14_20 A W 50 hf) hc)) (by exact hlt))
   refine ocg 47 ?_ (fun A W hx hf => ?_) ?_
   rfl
   exact gd_f (q1 ?b14_16 A W 47 hf) (fun hc => Q2s tu94 (i := 1) rfl Q0m rfl (G.get (q0 ?b14_21 A W 51 hf) hc))
   refine ocg 47 ?_ (fun A W hx hf => ?_) ?_
   rfl
   exact gd_f (q1 ?b14_16 A W 47 hf) (fun hc => Q7j tu3 rfl (G.get (q0 ?b14_22 A W 52 hf) hc))
   refine ocg 47 ?_ (fun A W hx hf => ?_) ?_
   rfl
   exact gd_f (q1 ?b14_16 A W 47 hf) (fun hc => Q3m (G.get (q0 ?b14_23 A W 53 hf) hc) (ec A (.int .i64 65535)))
   apply oc0; intro A W hx hf
   exact Q3o (q0 ?b14_16 A W 47 hf) (q1 ?b14_24 A W 54 hf)
   exact onn
  case t14 => repeat (first | exact Q9h | refine Q7e ?_)
  clear hr; intro a15 w15 x hr hd hs
  revert s3; revert s1; refine kp2 hs rfl ?_; intro s1 s3
  clear s27
  have s55 := fa ?b14_25 a15 w15 55 (hd 25 55 rfl)
  replace e_w := e_w.trans x
  replace e_w10 := e_w10.trans x
  replace m10 := m10.tr hs rfl; clear hd hs x
  refine et ?_
  refine wp_cond_split (show _ = _ from s55) (fun hb9 => ?_) (fun hb9 => ?_)
  ·
   have hok : Q57 (L.tags[i]'hlt) = false := by have := Qr1 (L.tags[i]'hlt); rw [show _ = true from hb9] at this; simpa using this.symm
   refine sq ?_
   refine Q04 56 [[]] [?b17_0] Q08 hr ?t17 ?o17 ?_
   case o17 =>
    apply oc0; intro A W hx hf
    exact Q05
    exact onn
   case t17 => exact inferInstance
   clear hr; intro a18 w18 x hr hd hs
   clear s1 s3 s55
   have s2 := fa ?b17_0 a18 w18 2 (hd 0 2 rfl)
   replace e_w := e_w.trans x
   clear e_w10
   replace m10 := m10.tr hs rfl; clear hd hs x
   refine et ?_
   refine wp_ret ?_
   refine Q1t ?_
   refine Q0e ?_
   refine Q0e ?_
   refine Q1t ?_
   refine Q0e ?_
   refine Q0r Try.results30 hr e_w ?_
   first | exact Is.bool s2 hr9.symm | exact Is.bool s2 (by rw [hr9]; exact (Qjb hlt hok).symm) | exact Is.bool s2 (by rw [hr9]; exact hall.symm)
  have hok : Q57 (L.tags[i]'hlt) = true := by have := Qr1 (L.tags[i]'hlt); rw [show _ = false from hb9] at this; simpa using this.symm
  refine wp_skip ?_
  refine Q0x ?_
  refine et ?_
  refine Q04 56 [[(3, none)], [(28, some 0)], [(29, some 1)]] [?b19_0, ?b19_1, ?b19_1] Q08 hr ?t19 ?o19 ?_
  case o19 =>
   apply oc0; intro A W hx hf
   exact Q01 (a0 := a15) (r0 hf)
   apply oc0; intro A W hx hf
   exact Q0o (p2 s3 e_w10 hx (q0 ?b19_0 A W 28 hf)) (ec A (.int .i64 1)) (by omega)
   apply oc0; intro A W hx hf
   exact Q03 (q0 ?b19_1 A W 29 hf)
   exact onn
  case t19 => exact inferInstance
  clear hr; intro a20 w20 x hr hd hs
  revert s1; refine kp1 hs rfl ?_; intro s1
  clear s3 s55
  have s3 := fa ?b19_1 a20 w20 3 (hd 2 3 rfl)
  replace e_w := e_w.trans x
  replace e_w10 := e_w10.trans x
  replace m10 := m10.tr hs rfl; clear hd hs x
  refine et ?_
  refine ⟨(fun (i : Nat) => L.tags.length - i) (i + 1), ?_, ?_⟩
  · (try dsimp only); omega
  refine ⟨i + 1, rfl, hr, m10, e_w, (by omega), (by exact Qle hlt hall hok), ?_, ?_⟩
  · exact (Q00 e_w10 s1)
  · first | exact s3 | exact Is.int s3 (by first | omega | simp) | exact Is.bool s3 (by first | omega | simp)
 have hlt : i = L.tags.length := by simp at hlt; omega
 subst hlt
 rw [List.take_length] at hall
 refine wp_exit ?_
 refine Q0g ?_
 refine Q0g ?_
 refine Q1a ?_
 refine es ?_
 refine Q04 56 [[]] [?b21_0] Q08 hr ?t21 ?o21 ?_
 case o21 =>
  apply oc0; intro A W hx hf
  exact Q05
  exact onn
 case t21 => exact inferInstance
 clear hr; intro a22 w22 x hr hd hs
 clear s1 s3 s27
 have s2 := fa ?b21_0 a22 w22 2 (hd 0 2 rfl)
 replace e_w := e_w.trans x
 clear e_w10; clear hd hs x
 refine et ?_
 refine wp_ret ?_
 refine Q0r Try.results30 hr e_w ?_
 first | exact Is.bool s2 hr9.symm | exact Is.bool s2 (by rw [hr9]; exact (Qjb hlt hok).symm) | exact Is.bool s2 (by rw [hr9]; exact hall.symm)

def Qf5 : List Tmp := [3, 4, 8, 9, 10, 11, 12, 13, 14, 15, 16, 17, 18]
def Qf6 : List Tmp := [3, 5, 19, 20, 21, 22, 23, 24, 25, 26, 27, 28, 29]
def Qf7 : List Tmp := [3, 6, 7, 30, 31, 32, 33, 34, 35, 36, 37, 38, 39, 40, 41, 42, 43, 44, 45, 46, 47, 48, 49, 50, 51, 52, 53, 54, 55, 56, 57, 58, 59, 60]
theorem Qop {x0 : Value} {w : World} {L : LinkL} {B : Nat} (h0 : (LinkV L) x0 w) (hL : Q2i L) (hr1 : Q17 L = true) (hB : B ≤ w.heap.size) :
    Calls Try.prog 33 #[x0] w (Ret (OwnB B 5 (Q23 L)) w) := by
 obtain ⟨v, eh0, hT, hvh0⟩ := h0
 replace h0 : Is (LnkA L v) x0 w := eh0
 have hd6 := hL.1
 have hs6 := hL.2
 obtain ⟨ht2, hty, htb, hall⟩ := Q6f hr1
 refine enter Try.func33 rfl Try.ntmps33 (k := 1) rfl (by decide) (fun a0 hr hargs => ?_)
 have s0 := sarg h0 (hargs 0 (by decide))
 clear hargs
 refine sq ?_
 refine Q04 72 [[(0, none)], []] [?b1_0, ?b1_1] Q08 hr ?t1 ?o1 ?_
 case o1 =>
  apply oc0; intro A W hx hf
  exact Q1y (lnkS L v) [6, 6, 1, 1, 1] (o1 s0 hx (r0 hf)) (by exact Q4l hL) hx.size
  apply oc0; intro A W hx hf
  exact Q1l (OwnBA 0 w.heap.size 5 []) (fun _ => Q2o)
  exact onn
 case t1 => exact inferInstance
 clear hr; intro a2 w2 x hr hd hs
 clear s0
 have s1 := fa ?b1_0 a2 w2 1 (hd 0 1 rfl)
 obtain ⟨g2_1, q2_1⟩ := PxN.at s1; clear s1; have n2_1 := PxS.lt q2_1
 have s1 := q2_1; clear q2_1
 have e_w := x; clear hd hs x
 refine es ?_
 refine Q04 72 [[]] [?b3_0] Q08 hr ?t3 ?o3 ?_
 case o3 =>
  apply oc0; intro A W hx hf
  exact Q1l (OwnBA 0 w.heap.size 5 []) (fun _ => Q2o)
  exact onn
 case t3 => exact inferInstance
 clear hr; intro a4 w4 x hr hd hs
 revert s1; refine kp1 hs rfl ?_; intro s1
 have s3 := fa ?b3_0 a4 w4 3 (hd 0 3 rfl)
 replace e_w := e_w.trans x
 have e_w2 := x; clear hd hs x
 refine es ?_
 refine sq ?_
 refine Q04 72 [[]] [?b5_0] Q08 hr ?t5 ?o5 ?_
 case o5 =>
  apply oc0; intro A W hx hf
  exact Q05
  exact onn
 case t5 => exact inferInstance
 clear hr; intro a6 w6 x hr hd hs
 revert s3; revert s1; refine kp2 hs rfl ?_; intro s1 s3
 have s4 := fa ?b5_0 a6 w6 4 (hd 0 4 rfl)
 replace e_w := e_w.trans x
 replace e_w2 := e_w2.trans x
 have e_w4 := x; clear hd hs x
 refine et ?_
 refine wp_block ?_
 refine Q14 (fun n A W => ∃ (i β : Nat), n = 6 - i ∧ Fr 72 A ∧ Same Qf5 a6 A ∧ Ext w W ∧ (i ≤ 6) ∧ (g2_1 ≠ β) ∧ (PxS g2_1 w.heap.size [6, 6, 1, 1, 1] (lnkS L v) 0) (A.eval (.tmp 1)) W ∧ (OwnBA β w.heap.size 5 (L.dst.take i)) (A.eval (.tmp 3)) W ∧ (Is (.int .i64 (i : Int))) (A.eval (.tmp 4)) W) ?start7 ?_
 case start7 =>
  refine ⟨_, 0, 0, rfl, hr, Same.rfl, e_w, (by first | assumption | omega), (by first | assumption | omega), ?_, ?_, ?_⟩
  · exact (Q00 e_w2 s1)
  · exact OwnBA.cast (Q00 e_w4 s3) (by simp)
  · first | exact s4 | exact Is.int s4 (by first | omega | simp) | exact Is.bool s4 (by first | omega | simp)
 intro n7 a7 w7 hI
 clear e_w
 clear e_w2
 clear e_w4
 clear hr; obtain ⟨i, β, hn7, hr, hs, e_w, hi, ne1, u1, u3, u4⟩ := hI
 clear s1 s3 s4
 have s1 := u1; clear u1
 have s3 := u3; clear u3
 have s4 := u4; clear u4
 have m7 := hs; clear hs
 refine sq ?_
 refine sq ?_
 refine Q04 72 [[(4, none)], [(8, some 0)]] [?b8_0, ?b8_1] Q08 hr ?t8 ?o8 ?_
 case o8 =>
  apply oc0; intro A W hx hf
  exact Q01 (a0 := a7) (r0 hf)
  apply oc0; intro A W hx hf
  exact Q1b (p1 s4 hx (q0 ?b8_0 A W 8 hf)) (ec A (.int .i64 6))
  exact onn
 case t8 => exact inferInstance
 clear hr; intro a9 w9 x hr hd hs
 revert s4; revert s3; revert s1; refine kp3 hs rfl ?_; intro s1 s3 s4
 have s9 := fa ?b8_1 a9 w9 9 (hd 1 9 rfl)
 replace e_w := e_w.trans x
 have e_w7 := x
 replace m7 := m7.tr hs rfl; clear hd hs x
 refine et ?_
 refine wp_cond_split (show _ = _ from s9) (fun hlt => ?_) (fun hlt => ?_)
 ·
  have hlt : i < 6 := by simp at hlt; omega
  refine wp_skip ?_
  refine es ?_
  refine wp_block ?_
  refine Q06 (l := [_, _, _, _, _, _]) (rest := [_, _]) 72 [[(3, none)], [(4, none)], [(1, none)], [(14, some 2), (13, some 1)], [(15, some 3)], [(16, some 4)]] [?b11_0, ?b11_1, ?b11_2, ?b11_3, ?b11_4, ?b11_5] hr ?t11 ?o11 ?_
  case o11 =>
   apply oc0; intro A W hx hf
   exact Q01 (a0 := a9) (r0 hf)
   apply oc0; intro A W hx hf
   exact Q01 (a0 := a9) (r0 hf)
   apply oc0; intro A W hx hf
   exact Q02 0 tu46 (k := 0) rfl Qg3 rfl (o2 s1 e_w7 hx (r0 hf)) rfl
   apply oc0; intro A W hx hf
   exact Q4f (_) tu43 Q0s (q0 ?b11_2 A W 14 hf) (p2 s4 e_w7 hx (q1 ?b11_1 A W 13 hf)) rfl (by omega)
   apply oc0; intro A W hx hf
   exact Q5n tu5 rfl (q0 ?b11_3 A W 15 hf) rfl (by omega)
   apply oc0; intro A W hx hf
   exact Q21 [(.tmp 16)] [_] tu22 Q0s Q45 rfl rfl (by decide) (PartsOk.cons (q0 ?b11_4 A W 16 hf) (PartsOk.nil))
   exact onn
  case t11 => exact inferInstance
  clear hr; intro a12 w12 x hr hd hs
  have u12 := mv s3 (fa ?b11_0 a12 w12 12 (hd 0 12 rfl))
  revert s4; revert s3; revert s1; refine kp3 hs rfl ?_; intro s1 s3 s4
  clear s9
  have s12 := u12; clear u12
  have s17 := fa ?b11_5 a12 w12 17 (hd 5 17 rfl)
  replace e_w := e_w.trans x
  replace e_w7 := e_w7.trans x
  replace m7 := m7.tr hs rfl; clear hd hs x
  have l13 := OwnBA.lt (Q00 e_w7 s12)
  have l13_1 := PxS.lt (Q00 e_w7 s1)
  refine Q0u hr (by decide) tu22 Q3u rfl (Q00 e_w7 s12) s17 e_w.size (by first | (simp; omega) | (simp only [List.length_append, List.length_take, List.length_cons, List.length_nil]; omega) | (have hfl2 := Q6g ht2 L.tags.length; simp only [List.length_append, List.length_take, List.length_cons, List.length_nil]; omega)) ?_; clear hr; intro g13 a13 w13 hg13 hc hr hd hs
  have hb := hc.below e_w.size l13.1
  revert s4; revert s1; refine kp2 hs rfl ?_; intro s1 s4
  clear s3 s12 s17
  replace s1 := PxS.other (Q00 e_w7 s1) hc (by omega)
  have s18 := hd
  replace e_w := e_w.below (Nat.le_refl _) hb
  clear e_w7
  replace s4 := anyw (w2 := w13) s4
  replace m7 := m7.tr hs rfl
  clear hd hs hb hc
  refine Q11 hr (Q03 s18) inferInstance ?_; clear hr; intro a14 w14 x hr hd hs
  revert s4; revert s1; refine kp2 hs rfl ?_; intro s1 s4
  clear s18
  have s3 := hd 3 rfl (by decide)
  replace e_w := e_w.trans x
  have e_w13 := x
  replace m7 := m7.tr hs rfl; clear hd hs x
  refine wpList_nil ?_
  refine Q0x ?_
  refine et ?_
  refine Q04 72 [[(4, none)], [(10, some 0)], [(11, some 1)]] [?b15_0, ?b15_1, ?b15_1] Q08 hr ?t15 ?o15 ?_
  case o15 =>
   apply oc0; intro A W hx hf
   exact Q01 (a0 := a14) (r0 hf)
   apply oc0; intro A W hx hf
   exact Q0o (p2 s4 e_w13 hx (q0 ?b15_0 A W 10 hf)) (ec A (.int .i64 1)) (by omega)
   apply oc0; intro A W hx hf
   exact Q03 (q0 ?b15_1 A W 11 hf)
   exact onn
  case t15 => exact inferInstance
  clear hr; intro a16 w16 x hr hd hs
  revert s3; revert s1; refine kp2 hs rfl ?_; intro s1 s3
  clear s4
  have s4 := fa ?b15_1 a16 w16 4 (hd 2 4 rfl)
  replace e_w := e_w.trans x
  replace e_w13 := e_w13.trans x
  have e_w14 := x
  replace m7 := m7.tr hs rfl; clear hd hs x
  refine et ?_
  refine ⟨(fun (i β : Nat) => 6 - i) (i + 1) (0), ?_, ?_⟩
  · (try dsimp only); omega
  refine ⟨i + 1, g13, rfl, hr, m7, e_w, (by first | assumption | omega), (by first | assumption | omega), ?_, ?_, ?_⟩
  · exact (Q00 e_w13 s1)
  · exact OwnBA.cast (Q00 e_w14 s3) (by rw [Q3n (l := L.dst) (by omega)])
  · first | exact s4 | exact Is.int s4 (by first | omega | simp) | exact Is.bool s4 (by first | omega | simp)
 have hlt : i = 6 := by simp at hlt; omega
 subst hlt
 refine wp_exit ?_
 refine Q0g ?_
 refine Q0g ?_
 refine Q1a ?_
 refine es ?_
 refine sq ?_
 refine Q04 72 [[]] [?b17_0] Q08 hr ?t17 ?o17 ?_
 case o17 =>
  apply oc0; intro A W hx hf
  exact Q05
  exact onn
 case t17 => exact inferInstance
 clear hr; intro a18 w18 x hr hd hs
 revert s3; revert s1; refine kp2 hs rfl ?_; intro s1 s3
 clear s4 s9
 have s5 := fa ?b17_0 a18 w18 5 (hd 0 5 rfl)
 replace e_w := e_w.trans x
 replace e_w7 := e_w7.trans x; clear hd hs x
 refine et ?_
 refine wp_block ?_
 refine Q14 (fun n A W => ∃ (j β : Nat), n = 6 - j ∧ Fr 72 A ∧ Same Qf6 a18 A ∧ Ext w W ∧ (j ≤ 6) ∧ (g2_1 ≠ β) ∧ (PxS g2_1 w.heap.size [6, 6, 1, 1, 1] (lnkS L v) 0) (A.eval (.tmp 1)) W ∧ (OwnBA β w.heap.size 5 (L.dst.take 6 ++ L.src.take j)) (A.eval (.tmp 3)) W ∧ (Is (.int .i64 (j : Int))) (A.eval (.tmp 5)) W) ?start19 ?_
 case start19 =>
  refine ⟨_, 0, β, rfl, hr, Same.rfl, e_w, (by first | assumption | omega), (by first | assumption | omega), ?_, ?_, ?_⟩
  · exact (Q00 e_w7 s1)
  · exact OwnBA.cast (Q00 e_w7 s3) (by simp)
  · first | exact s5 | exact Is.int s5 (by first | omega | simp) | exact Is.bool s5 (by first | omega | simp)
 intro n19 a19 w19 hI
 clear e_w
 clear e_w7
 clear hr; obtain ⟨j, β, hn19, hr, hs, e_w, hj, ne2, u1, u3, u5⟩ := hI
 clear s1 s3 s5
 have s1 := u1; clear u1
 have s3 := u3; clear u3
 have s5 := u5; clear u5
 have m19 := hs; clear hs
 refine sq ?_
 refine sq ?_
 refine Q04 72 [[(5, none)], [(19, some 0)]] [?b20_0, ?b20_1] Q08 hr ?t20 ?o20 ?_
 case o20 =>
  apply oc0; intro A W hx hf
  exact Q01 (a0 := a19) (r0 hf)
  apply oc0; intro A W hx hf
  exact Q1b (p1 s5 hx (q0 ?b20_0 A W 19 hf)) (ec A (.int .i64 6))
  exact onn
 case t20 => exact inferInstance
 clear hr; intro a21 w21 x hr hd hs
 revert s5; revert s3; revert s1; refine kp3 hs rfl ?_; intro s1 s3 s5
 have s20 := fa ?b20_1 a21 w21 20 (hd 1 20 rfl)
 replace e_w := e_w.trans x
 have e_w19 := x
 replace m19 := m19.tr hs rfl; clear hd hs x
 refine et ?_
 refine wp_cond_split (show _ = _ from s20) (fun hlt => ?_) (fun hlt => ?_)
 ·
  have hlt : j < 6 := by simp at hlt; omega
  refine wp_skip ?_
  refine es ?_
  refine wp_block ?_
  refine Q06 (l := [_, _, _, _, _, _]) (rest := [_, _]) 72 [[(3, none)], [(5, none)], [(1, none)], [(25, some 2), (24, some 1)], [(26, some 3)], [(27, some 4)]] [?b23_0, ?b23_1, ?b23_2, ?b23_3, ?b23_4, ?b23_5] hr ?t23 ?o23 ?_
  case o23 =>
   apply oc0; intro A W hx hf
   exact Q01 (a0 := a21) (r0 hf)
   apply oc0; intro A W hx hf
   exact Q01 (a0 := a21) (r0 hf)
   apply oc0; intro A W hx hf
   exact Q02 1 tu46 (k := 1) rfl Qg3 rfl (o2 s1 e_w19 hx (r0 hf)) rfl
   apply oc0; intro A W hx hf
   exact Q4f (_) tu43 Q0s (q0 ?b23_2 A W 25 hf) (p2 s5 e_w19 hx (q1 ?b23_1 A W 24 hf)) rfl (by omega)
   apply oc0; intro A W hx hf
   exact Q5n tu5 rfl (q0 ?b23_3 A W 26 hf) rfl (by omega)
   apply oc0; intro A W hx hf
   exact Q21 [(.tmp 27)] [_] tu22 Q0s Q45 rfl rfl (by decide) (PartsOk.cons (q0 ?b23_4 A W 27 hf) (PartsOk.nil))
   exact onn
  case t23 => exact inferInstance
  clear hr; intro a24 w24 x hr hd hs
  have u23 := mv s3 (fa ?b23_0 a24 w24 23 (hd 0 23 rfl))
  revert s5; revert s3; revert s1; refine kp3 hs rfl ?_; intro s1 s3 s5
  clear s20
  have s23 := u23; clear u23
  have s28 := fa ?b23_5 a24 w24 28 (hd 5 28 rfl)
  replace e_w := e_w.trans x
  replace e_w19 := e_w19.trans x
  replace m19 := m19.tr hs rfl; clear hd hs x
  have l25 := OwnBA.lt (Q00 e_w19 s23)
  have l25_1 := PxS.lt (Q00 e_w19 s1)
  refine Q0u hr (by decide) tu22 Q3u rfl (Q00 e_w19 s23) s28 e_w.size (by first | (simp; omega) | (simp only [List.length_append, List.length_take, List.length_cons, List.length_nil]; omega) | (have hfl2 := Q6g ht2 L.tags.length; simp only [List.length_append, List.length_take, List.length_cons, List.length_nil]; omega)) ?_; clear hr; intro g25 a25 w25 hg25 hc hr hd hs
  have hb := hc.below e_w.size l25.1
  revert s5; revert s1; refine kp2 hs rfl ?_; intro s1 s5
  clear s3 s23 s28
  replace s1 := PxS.other (Q00 e_w19 s1) hc (by omega)
  have s29 := hd
  replace e_w := e_w.below (Nat.le_refl _) hb
  clear e_w19
  replace s5 := anyw (w2 := w25) s5
  replace m19 := m19.tr hs rfl
  clear hd hs hb hc
  refine Q11 hr (Q03 s29) inferInstance ?_; clear hr; intro a26 w26 x hr hd hs
  revert s5; revert s1; refine kp2 hs rfl ?_; intro s1 s5
  clear s29
  have s3 := hd 3 rfl (by decide)
  replace e_w := e_w.trans x
  have e_w25 := x
  replace m19 := m19.tr hs rfl; clear hd hs x
  refine wpList_nil ?_
  refine Q0x ?_
  refine et ?_
  refine Q04 72 [[(5, none)], [(21, some 0)], [(22, some 1)]] [?b27_0, ?b27_1, ?b27_1] Q08 hr ?t27 ?o27 ?_
  case o27 =>
   apply oc0; intro A W hx hf
   exact Q01 (a0 := a26) (r0 hf)
   apply oc0; intro A W hx hf
   exact Q0o (p2 s5 e_w25 hx (q0 ?b27_0 A W 21 hf)) (ec A (.int .i64 1)) (by omega)
   apply oc0; intro A W hx hf
   exact Q03 (q0 ?b27_1 A W 22 hf)
   exact onn
  case t27 => exact inferInstance
  clear hr; intro a28 w28 x hr hd hs
  revert s3; revert s1; refine kp2 hs rfl ?_; intro s1 s3
  clear s5
  have s5 := fa ?b27_1 a28 w28 5 (hd 2 5 rfl)
  replace e_w := e_w.trans x
  replace e_w25 := e_w25.trans x
  have e_w26 := x
  replace m19 := m19.tr hs rfl; clear hd hs x
  refine et ?_
  refine ⟨(fun (j β : Nat) => 6 - j) (j + 1) (0), ?_, ?_⟩
  · (try dsimp only); omega
  refine ⟨j + 1, g25, rfl, hr, m19, e_w, (by first | assumption | omega), (by first | assumption | omega), ?_, ?_, ?_⟩
  · exact (Q00 e_w25 s1)
  · exact OwnBA.cast (Q00 e_w26 s3) (by rw [Q3n (l := L.src) (by omega), ← List.append_assoc])
  · first | exact s5 | exact Is.int s5 (by first | omega | simp) | exact Is.bool s5 (by first | omega | simp)
 have hlt : j = 6 := by simp at hlt; omega
 subst hlt
 refine wp_exit ?_
 refine Q0g ?_
 refine Q0g ?_
 refine Q1a ?_
 refine es ?_
 refine sq ?_
 refine Q04 72 [[]] [?b29_0] Q08 hr ?t29 ?o29 ?_
 case o29 =>
  apply oc0; intro A W hx hf
  exact Q05
  exact onn
 case t29 => exact inferInstance
 clear hr; intro a30 w30 x hr hd hs
 revert s3; revert s1; refine kp2 hs rfl ?_; intro s1 s3
 clear s5 s20
 have s6 := fa ?b29_0 a30 w30 6 (hd 0 6 rfl)
 replace e_w := e_w.trans x
 replace e_w19 := e_w19.trans x; clear hd hs x
 refine et ?_
 refine wp_block ?_
 refine Q14 (fun n A W => ∃ (q β : Nat), n = L.tags.length - q ∧ Fr 72 A ∧ Same Qf7 a30 A ∧ Ext w W ∧ (q ≤ L.tags.length) ∧ (g2_1 ≠ β) ∧ (PxS g2_1 w.heap.size [6, 6, 1, 1, 1] (lnkS L v) 0) (A.eval (.tmp 1)) W ∧ (OwnBA β w.heap.size 5 (L.dst.take 6 ++ L.src.take 6 ++ (L.tags.take q).flatMap Q3a)) (A.eval (.tmp 3)) W ∧ (Is (.int .i64 (q : Int))) (A.eval (.tmp 6)) W) ?start31 ?_
 case start31 =>
  refine ⟨_, 0, β, rfl, hr, Same.rfl, e_w, (by first | assumption | omega), (by first | assumption | omega), ?_, ?_, ?_⟩
  · exact (Q00 e_w19 s1)
  · exact OwnBA.cast (Q00 e_w19 s3) (by simp)
  · first | exact s6 | exact Is.int s6 (by first | omega | simp) | exact Is.bool s6 (by first | omega | simp)
 intro n31 a31 w31 hI
 clear e_w
 clear e_w19
 clear hr; obtain ⟨q, β, hn31, hr, hs, e_w, hq, ne3, u1, u3, u6⟩ := hI
 clear s1 s3 s6
 have s1 := u1; clear u1
 have s3 := u3; clear u3
 have s6 := u6; clear u6
 have m31 := hs; clear hs
 refine sq ?_
 refine sq ?_
 refine Q04 72 [[(6, none)], [(1, none)], [(31, some 1)], [(32, some 2)], [(30, some 0), (33, some 3)]] [?b32_0, ?b32_1, ?b32_2, ?b32_3, ?b32_4] Q08 hr ?t32 ?o32 ?_
 case o32 =>
  apply oc0; intro A W hx hf
  exact Q01 (a0 := a31) (r0 hf)
  apply oc0; intro A W hx hf
  exact Q02 2 tu46 (k := 2) rfl Q62 rfl (o1 s1 hx (r0 hf)) rfl
  apply oc0; intro A W hx hf
  exact Qaw (Q0a tu44 rfl (q0 ?b32_1 A W 31 hf) rfl) (Q00 (e_w.trans hx) hT)
  apply oc0; intro A W hx hf
  exact Q6a tu44 (q0 ?b32_2 A W 32 hf)
  apply oc0; intro A W hx hf
  exact Q1b (p1 s6 hx (q0 ?b32_0 A W 30 hf)) (q1 ?b32_3 A W 33 hf)
  exact onn
 case t32 => exact inferInstance
 clear hr; intro a33 w33 x hr hd hs
 revert s6; revert s3; revert s1; refine kp3 hs rfl ?_; intro s1 s3 s6
 have s34 := fa ?b32_4 a33 w33 34 (hd 4 34 rfl)
 replace e_w := e_w.trans x
 have e_w31 := x
 replace m31 := m31.tr hs rfl; clear hd hs x
 refine et ?_
 refine wp_cond_split (show _ = _ from s34) (fun hlt => ?_) (fun hlt => ?_)
 ·
  have hlt : q < L.tags.length := by simp at hlt; omega
  obtain ⟨X, hX⟩ : ∃ X, X = L.tags[q]'hlt := ⟨_, rfl⟩
  have hxo : Q57 X = true := by rw [hX]; exact hall _ (List.getElem_mem hlt)
  unfold Q57 at hxo
  simp only [Bool.and_eq_true] at hxo
  have b1 := Qj9 hxo.1
  have b2 := Q9u hxo.2
  have hfl := Q6g ht2 q
  refine wp_skip ?_
  refine es ?_
  refine wp_block ?_
  refine sq ?_
  refine Q06 (l := [_, _, _, _, _, _]) (rest := [_]) 72 [[(1, none)], [(37, some 0)], [(6, none)], [(38, some 1), (39, some 2)], [(40, some 3)], []] [?b35_0, ?b35_1, ?b35_2, ?b35_3, ?b35_4, ?b35_5] hr ?t35 ?o35 ?_
  case o35 =>
   apply oc0; intro A W hx hf
   exact Q02 2 tu46 (k := 2) rfl Q62 rfl (o2 s1 e_w31 hx (r0 hf)) rfl
   apply oc0; intro A W hx hf
   exact Qaw (Q0a tu44 rfl (q0 ?b35_0 A W 37 hf) rfl) (Q00 (e_w.trans hx) hT)
   apply oc0; intro A W hx hf
   exact Q01 (a0 := a33) (r0 hf)
   apply oc0; intro A W hx hf
   exact Q5m (_) tu44 Q9q (q0 ?b35_1 A W 38 hf) (p2 s6 e_w31 hx (q1 ?b35_2 A W 39 hf)) (by exact hlt)
   apply oc0; intro A W hx hf
   exact Qgz tu94 rfl Q9q (q0 ?b35_3 A W 40 hf) (by rfl)
   apply oc0; intro A W hx hf
   exact Q0y [[.int .i64 0], [.int .i64 0]] [1, 1] Qnp (by rfl) (by rfl) hx.size
   exact onn
  case t35 => exact inferInstance
  clear hr; intro a36 w36 x hr hd hs
  have z_w_w33 := e_w.size
  have z_w31_w33 := e_w31.size
  have l36_1 := PxS.lt (Q00 e_w31 s1)
  have l36_3 := OwnBA.lt (Q00 e_w31 s3)
  revert s6; revert s3; revert s1; refine kp3 hs rfl ?_; intro s1 s3 s6
  clear s34
  have s41 := fa ?b35_4 a36 w36 41 (hd 4 41 rfl)
  have s7 := fa ?b35_5 a36 w36 7 (hd 5 7 rfl)
  obtain ⟨g36_7, q36_7⟩ := PxN.at s7; clear s7; have n36_7 := PxS.lt q36_7
  replace q36_7 := PxS.mono q36_7 e_w.size
  have s7 := q36_7; clear q36_7
  replace e_w := e_w.trans x
  replace e_w31 := e_w31.trans x
  replace m31 := m31.tr hs rfl; clear hd hs x
  have z37 := PxS.lt s7
  have l37 := (show (g36_7 = 0 ∨ w.heap.size < g36_7) ∧ True from ⟨by omega, trivial⟩)
  have l37_1 := PxS.lt (Q00 e_w31 s1)
  have l37_3 := OwnBA.lt (Q00 e_w31 s3)
  refine Q19 [[.int .i64 X.type], [.int .i64 X.tci]] hr Q9q s7 (Is.conv s41 (show _ = Value.agg [[Value.int .i64 X.type], [Value.int .i64 X.tci]].flatten.toArray from by rw [hX]; rfl)) (by rfl) (by intro u hu; simp at hu; rcases hu with rfl | rfl <;> rfl) rfl ?_; clear hr; intro a37 w37 hc hu hr hs
  have hb : Below w.heap.size w36 w37 := hc.below e_w.size l37.1
  revert s7; revert s6; revert s3; revert s1; refine kp4 hs rfl ?_; intro s1 s3 s6 s7
  clear s41
  replace s1 := PxS.other (Q00 e_w31 s1) hc (by omega)
  replace s3 := OwnBA.other (Q00 e_w31 s3) hc (by omega)
  replace s7 := hu _ _ _ s7
  try simp only [List.set_cons_zero, List.set_cons_succ] at s7
  replace e_w := e_w.below (Nat.le_refl _) hb
  clear e_w31
  replace s6 := anyw (w2 := w37) s6
  replace m31 := m31.tr hs rfl
  clear hu hs hc hb
  refine wpList_nil ?_
  refine et ?_
  refine Q06 (l := [_, _, _, _, _, _, _, _, _, _, _, _, _, _, _, _, _, _]) (rest := [_, _]) 72 [[(3, none)], [(7, none)], [(43, some 1)], [(44, some 2)], [(45, some 3)], [(7, none)], [(47, some 5)], [(48, some 6)], [(49, some 7)], [(7, none)], [(51, some 9)], [(52, some 10)], [(53, some 11)], [(7, none)], [(55, some 13)], [(56, some 14)], [(57, some 15)], [(46, some 4), (50, some 8), (54, some 12), (58, some 16)]] [?b38_0, ?b38_1, ?b38_2, ?b38_3, ?b38_4, ?b38_5, ?b38_6, ?b38_7, ?b38_8, ?b38_9, ?b38_10, ?b38_11, ?b38_12, ?b38_13, ?b38_14, ?b38_15, ?b38_16, ?b38_17] hr ?t38 ?o38 ?_
  case o38 =>
   apply oc0; intro A W hx hf
   exact Q01 (a0 := a37) (r0 hf)
   apply oc0; intro A W hx hf
   exact Q02 0 tu94 (k := 0) rfl Q0m rfl (o1 s7 hx (r0 hf)) rfl
   apply oc0; intro A W hx hf
   exact Q0a tu3 rfl (q0 ?b38_1 A W 43 hf) rfl
   apply oc0; intro A W hx hf
   exact Q4u (by decide) (q0 ?b38_2 A W 44 hf) (ec A (.int .i64 256))
   apply oc0; intro A W hx hf
   exact Q15 tu3 tu5 (q0 ?b38_3 A W 45 hf)
   apply oc0; intro A W hx hf
   exact Q02 0 tu94 (k := 0) rfl Q0m rfl (o1 s7 hx (r0 hf)) rfl
   apply oc0; intro A W hx hf
   exact Q0a tu3 rfl (q0 ?b38_5 A W 47 hf) rfl
   apply oc0; intro A W hx hf
   exact Q4v (by decide) (q0 ?b38_6 A W 48 hf) (ec A (.int .i64 256))
   apply oc0; intro A W hx hf
   exact Q15 tu3 tu5 (q0 ?b38_7 A W 49 hf)
   apply oc0; intro A W hx hf
   exact Q02 1 tu94 (k := 1) rfl Q0m rfl (o1 s7 hx (r0 hf)) rfl
   apply oc0; intro A W hx hf
   exact Q0a tu3 rfl (q0 ?b38_9 A W 51 hf) rfl
   apply oc0; intro A W hx hf
   exact Q4u (by decide) (q0 ?b38_10 A W 52 hf) (ec A (.int .i64 256))
   apply oc0; intro A W hx hf
   exact Q15 tu3 tu5 (q0 ?b38_11 A W 53 hf)
   apply oc0; intro A W hx hf
   exact Q02 1 tu94 (k := 1) rfl Q0m rfl (o1 s7 hx (r0 hf)) rfl
   apply oc0; intro A W hx hf
   exact Q0a tu3 rfl (q0 ?b38_13 A W 55 hf) rfl
   apply oc0; intro A W hx hf
   exact Q4v (by decide) (q0 ?b38_14 A W 56 hf) (ec A (.int .i64 256))
   apply oc0; intro A W hx hf
   exact Q15 tu3 tu5 (q0 ?b38_15 A W 57 hf)
   apply oc0; intro A W hx hf
   exact Q21 [(.tmp 46), (.tmp 50), (.tmp 54), (.tmp 58)] [_, _, _, _] tu22 Q0s Q45 rfl rfl (by decide) (PartsOk.cons (q0 ?b38_4 A W 46 hf) (PartsOk.cons (q1 ?b38_8 A W 50 hf) (PartsOk.cons (q2 ?b38_12 A W 54 hf) (PartsOk.cons (q3 ?b38_16 A W 58 hf) (PartsOk.nil)))))
   exact onn
  case t38 => exact inferInstance
  clear hr; intro a39 w39 x hr hd hs
  have u42 := mv s3 (fa ?b38_0 a39 w39 42 (hd 0 42 rfl))
  revert s6; revert s3; revert s1; refine kp3 hs rfl ?_; intro s1 s3 s6
  clear s7
  have s42 := u42; clear u42
  have s59 := fa ?b38_17 a39 w39 59 (hd 17 59 rfl)
  replace e_w := e_w.trans x
  have e_w37 := x
  replace m31 := m31.tr hs rfl; clear hd hs x
  have l40 := OwnBA.lt (Q00 e_w37 s42)
  have l40_1 := PxS.lt (Q00 e_w37 s1)
  refine Q0u hr (by decide) tu22 Q3u rfl (Q00 e_w37 s42) s59 e_w.size (by first | (simp; omega) | (simp only [List.length_append, List.length_take, List.length_cons, List.length_nil]; omega) | (have hfl2 := Q6g ht2 L.tags.length; simp only [List.length_append, List.length_take, List.length_cons, List.length_nil]; omega)) ?_; clear hr; intro g40 a40 w40 hg40 hc hr hd hs
  have hb := hc.below e_w.size l40.1
  revert s6; revert s1; refine kp2 hs rfl ?_; intro s1 s6
  clear s3 s42 s59
  replace s1 := PxS.other (Q00 e_w37 s1) hc (by omega)
  have s60 := hd
  replace e_w := e_w.below (Nat.le_refl _) hb
  clear e_w37
  replace s6 := anyw (w2 := w40) s6
  replace m31 := m31.tr hs rfl
  clear hd hs hb hc
  refine Q11 hr (Q03 s60) inferInstance ?_; clear hr; intro a41 w41 x hr hd hs
  revert s6; revert s1; refine kp2 hs rfl ?_; intro s1 s6
  clear s60
  have s3 := hd 3 rfl (by decide)
  replace e_w := e_w.trans x
  have e_w40 := x
  replace m31 := m31.tr hs rfl; clear hd hs x
  refine wpList_nil ?_
  refine Q0x ?_
  refine et ?_
  refine Q04 72 [[(6, none)], [(35, some 0)], [(36, some 1)]] [?b42_0, ?b42_1, ?b42_1] Q08 hr ?t42 ?o42 ?_
  case o42 =>
   apply oc0; intro A W hx hf
   exact Q01 (a0 := a41) (r0 hf)
   apply oc0; intro A W hx hf
   exact Q0o (p2 s6 e_w40 hx (q0 ?b42_0 A W 35 hf)) (ec A (.int .i64 1)) (by omega)
   apply oc0; intro A W hx hf
   exact Q03 (q0 ?b42_1 A W 36 hf)
   exact onn
  case t42 => exact inferInstance
  clear hr; intro a43 w43 x hr hd hs
  revert s3; revert s1; refine kp2 hs rfl ?_; intro s1 s3
  clear s6
  have s6 := fa ?b42_1 a43 w43 6 (hd 2 6 rfl)
  replace e_w := e_w.trans x
  replace e_w40 := e_w40.trans x
  have e_w41 := x
  replace m31 := m31.tr hs rfl; clear hd hs x
  refine et ?_
  refine ⟨(fun (q β : Nat) => L.tags.length - q) (q + 1) (0), ?_, ?_⟩
  · (try dsimp only); omega
  refine ⟨q + 1, g40, rfl, hr, m31, e_w, (by first | assumption | omega), (by first | assumption | omega), ?_, ?_, ?_⟩
  · exact (Q00 e_w40 s1)
  · exact OwnBA.cast (Q00 e_w41 s3) (by rw [Qjc hlt, ← hX, Q52 b1, Q53 b1.1, Q52 b2, Q53 b2.1, show ((2 : Int) ^ 8) = 256 from rfl]; simp [Q3a, put2])
  · first | exact s6 | exact Is.int s6 (by first | omega | simp) | exact Is.bool s6 (by first | omega | simp)
 have hlt : q = L.tags.length := by simp at hlt; omega
 subst hlt
 refine wp_exit ?_
 refine Q0g ?_
 refine Q0g ?_
 refine Q1a ?_
 refine es ?_
 refine Q06 (l := [_, _, _, _, _, _, _, _, _, _]) (rest := [_, _]) 72 [[(3, none)], [(1, none)], [(62, some 1)], [(63, some 2)], [(64, some 3)], [(1, none)], [(66, some 5)], [(67, some 6)], [(68, some 7)], [(65, some 4), (69, some 8)]] [?b44_0, ?b44_1, ?b44_2, ?b44_3, ?b44_4, ?b44_5, ?b44_6, ?b44_7, ?b44_8, ?b44_9] hr ?t44 ?o44 ?_
 case o44 =>
  apply oc0; intro A W hx hf
  exact Q01 (a0 := a33) (r0 hf)
  apply oc0; intro A W hx hf
  exact Q02 3 tu46 (k := 3) rfl Q0m rfl (o2 s1 e_w31 hx (r0 hf)) rfl
  apply oc0; intro A W hx hf
  exact Q0a tu3 rfl (q0 ?b44_1 A W 62 hf) rfl
  apply oc0; intro A W hx hf
  exact Q4u (by decide) (q0 ?b44_2 A W 63 hf) (ec A (.int .i64 256))
  apply oc0; intro A W hx hf
  exact Q15 tu3 tu5 (q0 ?b44_3 A W 64 hf)
  apply oc0; intro A W hx hf
  exact Q02 3 tu46 (k := 3) rfl Q0m rfl (o2 s1 e_w31 hx (r0 hf)) rfl
  apply oc0; intro A W hx hf
  exact Q0a tu3 rfl (q0 ?b44_5 A W 66 hf) rfl
  apply oc0; intro A W hx hf
  exact Q4v (by decide) (q0 ?b44_6 A W 67 hf) (ec A (.int .i64 256))
  apply oc0; intro A W hx hf
  exact Q15 tu3 tu5 (q0 ?b44_7 A W 68 hf)
  apply oc0; intro A W hx hf
  exact Q21 [(.tmp 65), (.tmp 69)] [_, _] tu22 Q0s Q45 rfl rfl (by decide) (PartsOk.cons (q0 ?b44_4 A W 65 hf) (PartsOk.cons (q1 ?b44_8 A W 69 hf) (PartsOk.nil)))
  exact onn
 case t44 => exact inferInstance
 clear hr; intro a45 w45 x hr hd hs
 have u61 := mv s3 (fa ?b44_0 a45 w45 61 (hd 0 61 rfl))
 clear s1 s3 s6 s34
 have s61 := u61; clear u61
 have s70 := fa ?b44_9 a45 w45 70 (hd 9 70 rfl)
 replace e_w := e_w.trans x
 replace e_w31 := e_w31.trans x; clear hd hs x
 have l46 := OwnBA.lt (Q00 e_w31 s61)
 refine Q0u hr (by decide) tu22 Q3u rfl (Q00 e_w31 s61) s70 e_w.size (by first | (simp; omega) | (simp only [List.length_append, List.length_take, List.length_cons, List.length_nil]; omega) | (have hfl2 := Q6g ht2 L.tags.length; simp only [List.length_append, List.length_take, List.length_cons, List.length_nil]; omega)) ?_; clear hr; intro g46 a46 w46 hg46 hc hr hd hs
 have hb := hc.below e_w.size l46.1
 clear s61 s70
 have s71 := hd
 replace e_w := e_w.below (Nat.le_refl _) hb
 clear e_w31
 clear hd hs hb hc
 refine Q11 hr (Q03 s71) inferInstance ?_; clear hr; intro a47 w47 x hr hd hs
 clear s71
 have s2 := hd 2 rfl (by decide)
 replace e_w := e_w.trans x; clear hd hs x
 refine wpList_nil ?_
 refine et ?_
 refine wp_ret ?_
 refine Q0r Try.results33 hr e_w ?_
 exact OwnB.cast (OwnB.mono s2.own hB) (by rw [List.take_length, List.take_of_length_le (by omega), List.take_of_length_le (by omega), Q52 hty, Q53 hty.1, show ((2 : Int) ^ 8) = 256 from rfl]; simp [Q23, put2])

end Go.Proofs.Ytlmdboaghojgiaa
