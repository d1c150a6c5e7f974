import Derived.Test.YtlmdboaghojgiaaC01
import Derived.Test.YtlmdboaghojgiaaC06
import Derived.Test.YtlmdboaghojgiaaS07
import Derived.Test.YtlmdboaghojgiaaE07
namespace Go.Proofs.Ytlmdboaghojgiaa
open Go.RowKit
set_option linter.unusedVariables false
set_option linter.unusedSimpArgs false
set_option maxRecDepth 4000
theorem Qpa {x0 : Value} {w : World} {n : Int} (h0 : (Is (.int .i64 n)) x0 w)  :
    Calls Try.prog 70 #[x0] w (Ret (Is (.bool (tagB n))) w) := by
 refine enter Try.func70 rfl Try.ntmps70 (k := 1) rfl (by decide) (fun a0 hr hargs => ?_)
 have s0 := sarg h0 (hargs 0 (by decide))
 clear hargs
 refine sq ?_
 refine Q04 9 [[]] [?b1_0] Q07 hr ?t1 ?o1 ?_
 case o1 =>
  apply oc0; intro A W hx hf
  exact Q06
  exact onn
 case t1 => exact inferInstance
 clear hr; intro a2 w2 x hr hd hs
 revert s0; refine kp1 hs rfl ?_; intro s0
 have e_w := x; clear hd hs x
 refine es ?_
 refine Q04 9 [[(0, none)], [(3, some 0)], [(4, some 1)], [(0, none), (5, some 2)], [(6, some 3), (5, some 2)], [(5, some 2), (7, some 4)], [(8, some 5)]] [?b3_0, ?b3_1, ?b3_1, ?b3_3, ?b3_4, ?b3_5, ?b3_5] Q07 hr ?t3 ?o3 ?_
 case o3 =>
  apply oc0; intro A W hx hf
  exact Q01 (a0 := a2) (r0 hf)
  apply oc0; intro A W hx hf
  exact Q1f (p2 s0 e_w hx (q0 ?b3_0 A W 3 hf)) (ec A (.int .i64 33024))
  apply oc0; intro A W hx hf
  exact Q0p (q0 ?b3_1 A W 4 hf)
  refine ocg 5 ?_ (fun A W hx hf => ?_) ?_
  rfl
  exact gd_f (q1 ?b3_1 A W 5 hf) (fun hc => Q01 (a0 := a2) (r0 hf))
  refine ocg 5 ?_ (fun A W hx hf => ?_) ?_
  rfl
  exact gd_f (q1 ?b3_1 A W 5 hf) (fun hc => Q1f (p2 s0 e_w hx (G.get (q0 ?b3_3 A W 6 hf) hc)) (ec A (.int .i64 34984)))
  apply oc0; intro A W hx hf
  exact Q4k (q0 ?b3_1 A W 5 hf) (q1 ?b3_4 A W 7 hf)
  apply oc0; intro A W hx hf
  exact Q03 (q0 ?b3_5 A W 8 hf)
  exact onn
 case t3 => exact inferInstance
 clear hr; intro a4 w4 x hr hd hs
 clear s0
 have s2 := fa ?b3_5 a4 w4 2 (hd 6 2 rfl)
 replace e_w := e_w.trans x; clear hd hs x
 refine et ?_
 refine wp_ret ?_
 refine Q14 Try.results70 hr e_w ?_
 exact Is.bool s2 rfl

theorem Qn0 {x0 : Value} {w : World} {n : Int} (h0 : (Is (.int .i64 n)) x0 w)  :
    Calls Try.prog 48 #[x0] w (Ret (Is (.bool (tagB n))) w) := by
 refine enter Try.func48 rfl Try.ntmps48 (k := 1) rfl (by decide) (fun a0 hr hargs => ?_)
 have s0 := sarg h0 (hargs 0 (by decide))
 clear hargs
 refine sq ?_
 refine Q04 9 [[]] [?b1_0] Q07 hr ?t1 ?o1 ?_
 case o1 =>
  apply oc0; intro A W hx hf
  exact Q06
  exact onn
 case t1 => exact inferInstance
 clear hr; intro a2 w2 x hr hd hs
 revert s0; refine kp1 hs rfl ?_; intro s0
 have e_w := x; clear hd hs x
 refine es ?_
 refine Q04 9 [[(0, none)], [(3, some 0)], [(4, some 1)], [(0, none), (5, some 2)], [(6, some 3), (5, some 2)], [(5, some 2), (7, some 4)], [(8, some 5)]] [?b3_0, ?b3_1, ?b3_1, ?b3_3, ?b3_4, ?b3_5, ?b3_5] Q07 hr ?t3 ?o3 ?_
 case o3 =>
  apply oc0; intro A W hx hf
  exact Q01 (a0 := a2) (r0 hf)
  apply oc0; intro A W hx hf
  exact Q1f (p2 s0 e_w hx (q0 ?b3_0 A W 3 hf)) (ec A (.int .i64 33024))
  apply oc0; intro A W hx hf
  exact Q0p (q0 ?b3_1 A W 4 hf)
  refine ocg 5 ?_ (fun A W hx hf => ?_) ?_
  rfl
  exact gd_f (q1 ?b3_1 A W 5 hf) (fun hc => Q01 (a0 := a2) (r0 hf))
  refine ocg 5 ?_ (fun A W hx hf => ?_) ?_
  rfl
  exact gd_f (q1 ?b3_1 A W 5 hf) (fun hc => Q1f (p2 s0 e_w hx (G.get (q0 ?b3_3 A W 6 hf) hc)) (ec A (.int .i64 34984)))
  apply oc0; intro A W hx hf
  exact Q4k (q0 ?b3_1 A W 5 hf) (q1 ?b3_4 A W 7 hf)
  apply oc0; intro A W hx hf
  exact Q03 (q0 ?b3_5 A W 8 hf)
  exact onn
 case t3 => exact inferInstance
 clear hr; intro a4 w4 x hr hd hs
 clear s0
 have s2 := fa ?b3_5 a4 w4 2 (hd 6 2 rfl)
 replace e_w := e_w.trans x; clear hd hs x
 refine et ?_
 refine wp_ret ?_
 refine Q14 Try.results48 hr e_w ?_
 exact Is.bool s2 rfl

theorem Qjg {x0 : Value} {w : World} {l : List UInt8} (h0 : (Bs l) x0 w) (h2 : 2 ≤ l.length) :
    Calls Try.prog 69 #[x0] w (Ret (Is (.int .i64 (Q0a l 0))) w) := by
 have hlen := Bs.len_le h0
 have hbe := Qcc (l := l) (i := 0) (by omega)
 have hw := Q1a l 0
 have h8 : (l.take 2).take 8 = subl l 0 (0 + 2) := by rw [List.take_of_length_le (by simp; omega)]; simp [subl]
 refine enter Try.func69 rfl Try.ntmps69 (k := 1) rfl (by decide) (fun a0 hr hargs => ?_)
 have s0 := sarg h0 (hargs 0 (by decide))
 clear hargs
 refine sq ?_
 refine Q04 7 [[]] [?b1_0] Q07 hr ?t1 ?o1 ?_
 case o1 =>
  apply oc0; intro A W hx hf
  exact Q06
  exact onn
 case t1 => exact inferInstance
 clear hr; intro a2 w2 x hr hd hs
 revert s0; refine kp1 hs rfl ?_; intro s0
 have e_w := x; clear hd hs x
 refine es ?_
 refine Q04 7 [[(0, none)], [(3, some 0)], [(4, some 1)], [(5, some 2)], [(6, some 3)]] [?b3_0, ?b3_1, ?b3_2, ?b3_3, ?b3_3] Q07 hr ?t3 ?o3 ?_
 case o3 =>
  apply oc0; intro A W hx hf
  exact Q01 (a0 := a2) (r0 hf)
  apply oc0; intro A W hx hf
  exact Qd9 (2) tu22 Q0i (p2 s0 e_w hx (q0 ?b3_0 A W 3 hf)) (ec A (.int .i64 2)) (by omega)
  apply oc0; intro A W hx hf
  exact Q0t Qca (Qhp (q0 ?b3_1 A W 4 hf) (show Is (.bool true) (A.eval (.const (.bool true))) _ from rfl))
  apply oc0; intro A W hx hf
  exact Q25 tu84 tu3 (by rw [h8, hbe]; exact IntWalk.i64_in _ (by omega)) (q0 ?b3_2 A W 5 hf)
  apply oc0; intro A W hx hf
  exact Q03 (q0 ?b3_3 A W 6 hf)
  exact onn
 case t3 => exact inferInstance
 clear hr; intro a4 w4 x hr hd hs
 clear s0
 have s2 := fa ?b3_3 a4 w4 2 (hd 4 2 rfl)
 replace e_w := e_w.trans x; clear hd hs x
 refine et ?_
 refine wp_ret ?_
 refine Q14 Try.results69 hr e_w ?_
 exact Is.int s2 (by rw [h8, hbe])

theorem Qbf {x0 x1 : Value} {w : World} {l : List UInt8} {z : Int} (h0 : (Bs l) x0 w) (h1 : (Is (.int .i64 z)) x1 w) (hz0 : 0 ≤ z) (hz1 : z.toNat + 2 ≤ l.length) :
    Calls Try.prog 49 #[x0, x1] w (Ret (Is (.int .i64 (Q0a l z.toNat))) w) := by
 have hlen := Bs.len_le h0
 obtain ⟨i, rfl⟩ : ∃ i : Nat, z = (i : Int) := ⟨z.toNat, by omega⟩
 simp only [Int.toNat_natCast] at hz1 ⊢
 have g0 : i < l.length := by omega
 have g1 : i + 1 < l.length := by omega
 have y0 := Q3b l[i]
 have y1 := Q3b l[i + 1]
 refine enter Try.func49 rfl Try.ntmps49 (k := 2) rfl (by decide) (fun a0 hr hargs => ?_)
 have s0 := sarg h0 (hargs 0 (by decide))
 have s1 := sarg h1 (hargs 1 (by decide))
 clear hargs
 refine sq ?_
 refine Q04 18 [[]] [?b1_0] Q07 hr ?t1 ?o1 ?_
 case o1 =>
  apply oc0; intro A W hx hf
  exact Q06
  exact onn
 case t1 => exact inferInstance
 clear hr; intro a2 w2 x hr hd hs
 revert s1; revert s0; refine kp2 hs rfl ?_; intro s0 s1
 have e_w := x; clear hd hs x
 refine es ?_
 refine Q04 18 [[(0, none)], [(1, none)], [(5, some 0), (6, some 1)], [(7, some 2)], [(8, some 3)], [(9, some 4)], [(0, none)], [(1, none)], [(12, some 7)], [(11, some 6), (13, some 8)], [(14, some 9)], [(15, some 10)], [(10, some 5), (16, some 11)], [(17, some 12)]] [?b3_0, ?b3_1, ?b3_2, ?b3_3, ?b3_4, ?b3_5, ?b3_6, ?b3_7, ?b3_8, ?b3_9, ?b3_10, ?b3_11, ?b3_12, ?b3_12] Q07 hr ?t3 ?o3 ?_
 case o3 =>
  apply oc0; intro A W hx hf
  exact Q01 (a0 := a2) (r0 hf)
  apply oc0; intro A W hx hf
  exact Q01 (a0 := a2) (r0 hf)
  apply oc0; intro A W hx hf
  exact Q0e (_) tu22 Q0i (p2 s0 e_w hx (q0 ?b3_0 A W 5 hf)) (p2 s1 e_w hx (q1 ?b3_1 A W 6 hf)) (by first | omega | decide | (simp; done) | (simp; omega))
  apply oc0; intro A W hx hf
  exact Q0q tu5 rfl (q0 ?b3_2 A W 7 hf)
  apply oc0; intro A W hx hf
  exact Q1c tu5 tu3 (by decide) (q0 ?b3_3 A W 8 hf)
  apply oc0; intro A W hx hf
  exact Q2p (ec A (.int .i64 256)) (q0 ?b3_4 A W 9 hf) (by omega)
  apply oc0; intro A W hx hf
  exact Q01 (a0 := a2) (r0 hf)
  apply oc0; intro A W hx hf
  exact Q01 (a0 := a2) (r0 hf)
  apply oc0; intro A W hx hf
  exact Q0h (p2 s1 e_w hx (q0 ?b3_7 A W 12 hf)) (ec A (.int .i64 1)) (by omega)
  apply oc0; intro A W hx hf
  exact Q0e (i + 1) tu22 Q0i (p2 s0 e_w hx (q0 ?b3_6 A W 11 hf)) (Is.int (q1 ?b3_8 A W 13 hf) (by omega)) (by first | omega | decide | (simp; done) | (simp; omega))
  apply oc0; intro A W hx hf
  exact Q0q tu5 rfl (q0 ?b3_9 A W 14 hf)
  apply oc0; intro A W hx hf
  exact Q1c tu5 tu3 (by decide) (q0 ?b3_10 A W 15 hf)
  apply oc0; intro A W hx hf
  exact Q0h (q0 ?b3_5 A W 10 hf) (q1 ?b3_11 A W 16 hf) (by omega)
  apply oc0; intro A W hx hf
  exact Q03 (q0 ?b3_12 A W 17 hf)
  exact onn
 case t3 => exact inferInstance
 clear hr; intro a4 w4 x hr hd hs
 clear s0 s1
 have s4 := fa ?b3_12 a4 w4 4 (hd 13 4 rfl)
 replace e_w := e_w.trans x; clear hd hs x
 refine et ?_
 refine wp_ret ?_
 refine Q14 Try.results49 hr e_w ?_
 exact Is.int s4 (by unfold Q0a; rw [Q0o g0, Q0o g1])

def Qeb : List Tmp := [3, 22, 23, 24, 25, 26, 27, 28, 29, 30, 31, 32, 33, 34, 35, 36, 37, 38, 39, 40, 41, 42, 43, 44, 45, 46, 47, 48, 49, 50, 51, 52, 53, 54, 55, 56, 57, 58, 59, 60]
set_option maxHeartbeats 1000000 in
theorem Qmy {x0 : Value} {w : World} {l : List UInt8} {B : Nat} (h0 : (Bs l) x0 w) (hB : B ≤ w.heap.size) :
    Calls Try.prog 57 #[x0] w (Ret (Tup2 (LinkO B 94 (Q0f l).1) (Is (.int .i64 (Q0f l).2))) w) := by
 have hlen := Bs.len_le h0
 refine enter Try.func57 rfl Try.ntmps57 (k := 1) rfl (by decide) (fun a0 hr hargs => ?_)
 have s0 := sarg h0 (hargs 0 (by decide))
 clear hargs
 refine sq ?_
 refine Q04 62 [[], []] [?b1_0, ?b1_1] Q07 hr ?t1 ?o1 ?_
 case o1 =>
  apply oc0; intro A W hx hf
  exact Q0v [(lnkS Q43 (.slice none 0 0)).flatten] [15] Q71 (by rfl) (by rfl) hx.size
  apply oc0; intro A W hx hf
  exact Q06
  exact onn
 case t1 => exact inferInstance
 clear hr; intro a2 w2 x hr hd hs
 revert s0; refine kp1 hs rfl ?_; intro s0
 have s2 := fa ?b1_0 a2 w2 2 (hd 0 2 rfl)
 obtain ⟨g2_2, q2_2⟩ := PxN.at s2; clear s2; have n2_2 := PxS.lt q2_2
 have s2 := q2_2; clear q2_2
 have e_w := x; clear hd hs x
 refine es ?_
 refine sq ?_
 refine Q04 62 [[(0, none)], [(5, some 0)], [(6, some 1)]] [?b3_0, ?b3_1, ?b3_2] Q07 hr ?t3 ?o3 ?_
 case o3 =>
  apply oc0; intro A W hx hf
  exact Q01 (a0 := a2) (r0 hf)
  apply oc0; intro A W hx hf
  exact Q0u tu22 (p2 s0 e_w hx (q0 ?b3_0 A W 5 hf))
  apply oc0; intro A W hx hf
  exact Q1e (q0 ?b3_1 A W 6 hf) (ec A (.int .i64 14))
  exact onn
 case t3 => exact inferInstance
 clear hr; intro a4 w4 x hr hd hs
 revert s2; revert s0; refine kp2 hs rfl ?_; intro s0 s2
 have s7 := fa ?b3_2 a4 w4 7 (hd 2 7 rfl)
 replace e_w := e_w.trans x
 have e_w2 := x; clear hd hs x
 refine et ?_
 refine wp_cond_split (show _ = _ from s7) (fun hl => ?_) (fun hl => ?_)
 ·
  have hl : l.length < 14 := by simp at hl; omega
  have hrd : Q0f l = (Q43, 2) := Q4h (by omega)
  refine sq ?_
  refine Q05 (l := [_]) (rest := [_, _]) 62 [[]] [?b6_0] hr ?t6 ?o6 ?_
  case o6 =>
   apply oc0; intro A W hx hf
   exact Q0x Q63
   exact onn
  case t6 => exact inferInstance
  clear hr; intro a7 w7 x hr hd hs
  revert s2; refine kp1 hs rfl ?_; intro s2
  clear s0 s7
  have s8 := fa ?b6_0 a7 w7 8 (hd 0 8 rfl)
  replace e_w := e_w.trans x
  replace e_w2 := e_w2.trans x; clear hd hs x
  have z8 := PxS.lt (Q00 e_w2 s2)
  have l8 := (show (g2_2 = 0 ∨ w.heap.size < g2_2) ∧ True from ⟨by omega, trivial⟩)
  refine Q0b hr Q2f (Q00 e_w2 s2) s8 (by exact Q58 Q3r) (by exact Q3v rfl) rfl ?_; clear hr; intro a8 w8 hc hu hr hs
  have hb : Below w.heap.size w7 w8 := hc.below e_w.size l8.1
  revert s2; refine kp1 hs rfl ?_; intro s2
  clear s8
  replace s2 := hu _ _ _ (Q00 e_w2 s2)
  try simp only [List.set_cons_zero, List.set_cons_succ, lnkS] at s2
  replace e_w := e_w.below (Nat.le_refl _) hb
  clear e_w2
  clear hu hs hc hb
  refine Q10 hr (Q06) inferInstance ?_; clear hr; intro a9 w9 x hr hd hs
  revert s2; refine kp1 hs rfl ?_; intro s2
  have s3 := hd 3 rfl (by decide)
  replace e_w := e_w.trans x
  have e_w8 := x; clear hd hs x
  refine wpList_nil ?_
  refine et ?_
  refine wp_ret ?_
  refine Q0d ?_
  refine Q0c Try.results57 hr tu46 rfl Q2f (Q00 e_w8 s2) e_w ?_
  first | (rw [hrd]; exact ⟨_, _, rfl, ⟨_, rfl, Q4g⟩, s3⟩) | (rw [hrd]; exact ⟨_, _, rfl, ⟨_, rfl, OwnR.mono (OwnRA.own noGhost) hB⟩, s3⟩)
 have hl : ¬ l.length < 14 := by simp at hl; omega
 have w12 := Q1a l 12
 refine wp_skip ?_
 refine es ?_
 refine Q05 (l := [_, _, _, _, _]) (rest := [_]) 62 [[(0, none)], [(9, some 0)], [(10, some 1)], [(11, some 2)], []] [?b10_0, ?b10_1, ?b10_2, ?b10_3, ?b10_4] hr ?t10 ?o10 ?_
 case o10 =>
  apply oc0; intro A W hx hf
  exact Q01 (a0 := a4) (r0 hf)
  apply oc0; intro A W hx hf
  exact Q22 (12) tu22 Q0i (sarg s0 (show _ = _ from (q0 ?b10_0 A W 9 hf))) (ec A (.int .i64 12)) (by first | omega | decide | (simp; done) | (simp; omega))
  apply oc0; intro A W hx hf
  exact Q1d Qi6 (Qjg (AtW.now (q0 ?b10_1 A W 10 hf) (e_w.trans hx)) (by simp; omega))
  apply oc0; intro A W hx hf
  exact Q15 [(3, (.tmp 11)), (4, (.const (.int .i64 14)))] [(3, _), (4, _)] Qpj rfl (PartsC.one (q0 ?b10_2 A W 11 hf) rfl (PartsC.one (ec A (.int .i64 14)) rfl (PartsC.nil))) (by first | rfl | simp [Q0l, *])
  apply oc0; intro A W hx hf
  exact Q0v (lnkS Q43 (.slice none 0 0)) [6, 6, 1, 1, 1] Q71 (by rfl) (by rfl) hx.size
  exact onn
 case t10 => exact inferInstance
 clear hr; intro a11 w11 x hr hd hs
 have z_w_w4 := e_w.size
 have z_w2_w4 := e_w2.size
 have l11_2 := PxS.lt (Q00 e_w2 s2)
 revert s2; revert s0; refine kp2 hs rfl ?_; intro s0 s2
 clear s7
 have s12 := fa ?b10_3 a11 w11 12 (hd 3 12 rfl)
 have s4 := fa ?b10_4 a11 w11 4 (hd 4 4 rfl)
 obtain ⟨g11_4, q11_4⟩ := PxN.at s4; clear s4; have n11_4 := PxS.lt q11_4
 replace q11_4 := PxS.mono q11_4 e_w.size
 have s4 := q11_4; clear q11_4
 replace e_w := e_w.trans x
 replace e_w2 := e_w2.trans x; clear hd hs x
 have z12 := PxS.lt s4
 have l12 := (show (g11_4 = 0 ∨ w.heap.size < g11_4) ∧ True from ⟨by omega, trivial⟩)
 have l12_2 := PxS.lt (Q00 e_w2 s2)
 refine Q19 (lnkS ⟨List.replicate 6 0, List.replicate 6 0, [], Q0a l 12, 14⟩ (.slice none 0 0)) hr Q2f s4 (Is.conv s12 (show _ = Value.agg (lnkS ⟨List.replicate 6 0, List.replicate 6 0, [], Q0a l 12, 14⟩ (.slice none 0 0)).flatten.toArray from by rw [Q5q]; rfl)) (by rfl) (by exact Q3v rfl) rfl ?_; clear hr; intro a12 w12 hc hu hr hs
 have hb : Below w.heap.size w11 w12 := hc.below e_w.size l12.1
 revert s4; revert s2; revert s0; refine kp3 hs rfl ?_; intro s0 s2 s4
 clear s12
 replace s2 := PxS.other (Q00 e_w2 s2) hc (by omega)
 replace s4 := hu _ _ _ s4
 try simp only [List.set_cons_zero, List.set_cons_succ, lnkS] at s4
 replace e_w := e_w.below (Nat.le_refl _) hb
 clear e_w2
 clear hu hs hc hb
 refine wpList_nil ?_
 refine es ?_
 refine Q05 (l := [_, _, _]) (rest := [_]) 62 [[(4, none)], [(13, some 0)], [(0, none)]] [?b13_0, ?b13_1, ?b13_2] hr ?t13 ?o13 ?_
 case o13 =>
  apply oc0; intro A W hx hf
  exact Q02 0 tu46 (k := 0) rfl Qac rfl (o1 s4 hx (r0 hf)) rfl
  apply oc0; intro A W hx hf
  exact Q7h tu43 Q0i (q0 ?b13_0 A W 13 hf) rfl
  apply oc0; intro A W hx hf
  exact Q01 (a0 := a12) (r0 hf)
  exact onn
 case t13 => exact inferInstance
 clear hr; intro a14 w14 x hr hd hs
 have u15 := mv s0 (fa ?b13_2 a14 w14 15 (hd 2 15 rfl))
 revert s4; revert s2; revert s0; refine kp3 hs rfl ?_; intro s0 s2 s4
 have s15 := u15; clear u15
 have s14 := fa ?b13_1 a14 w14 14 (hd 1 14 rfl)
 replace e_w := e_w.trans x
 have e_w12 := x; clear hd hs x
 have z15 := SxS.lt s14
 have l15 := (show (g11_4 = 0 ∨ w.heap.size < g11_4) ∧ True from ⟨by omega, trivial⟩)
 have l15_2 := PxS.lt (Q00 e_w12 s2)
 refine Q7j hr tu22 Q0i s14 rfl (Q00 e_w s15) ?_; clear hr; intro a15 w15 hc hu hr hs
 have hb : Below w.heap.size w14 w15 := hc.below e_w.size l15.1
 revert s4; revert s2; revert s0; refine kp3 hs rfl ?_; intro s0 s2 s4
 clear s15 s14
 replace s2 := PxS.other (Q00 e_w12 s2) hc (by omega)
 replace s4 := hu _ _ _ (Q00 e_w12 s4)
 try simp only [List.set_cons_zero, List.set_cons_succ, lnkS] at s4
 replace e_w := e_w.below (Nat.le_refl _) hb
 clear e_w12
 clear hu hs hc hb
 refine wpList_nil ?_
 replace s4 := PxS.cast s4 (show _ = lnkS ⟨l.take 6, List.replicate 6 0, [], Q0a l 12, 14⟩ (.slice none 0 0) from by rw [cpy6 (by omega)]; rfl)
 refine es ?_
 refine Q1l Q07 (fun w16 x => ?_)
 show wpAny _ _ _ _ 5 _ _ _
 replace e_w := e_w.trans x
 have e_w15 := x
 clear x
 refine Q4n (l := [_, _, _, _, _]) 62 _ [false, false, false, false, true] [4] [[(4, none)], [(17, some 0)], [(0, none)], [(19, some 2)], []] [?b17_0, ?b17_1, ?b17_2, ?b17_3, VP.top] (by kernel_rfl) rfl (by kernel_rfl) hr ?t17 ?o17 ?_
 case o17 =>
  apply lc0; intro A W hx hf
  exact Q02 1 tu46 (k := 1) rfl Qac rfl (o2 s4 e_w15 hx (r0 hf)) rfl
  apply lc0; intro A W hx hf
  exact Q7h tu43 Q0i (q0 ?b17_0 A W 17 hf) rfl
  apply lc0; intro A W hx hf
  exact Q01 (a0 := a15) (r0 hf)
  apply lc0; intro A W hx hf
  exact Q22 (6) tu22 Q0i (sarg s0 (show _ = _ from (q0 ?b17_2 A W 19 hf))) (ec A (.int .i64 6)) (by first | omega | decide | (simp; done) | (simp; omega))
  refine lcs ?_
  exact lcn
 case t17 => exact inferInstance
 clear hr; intro a18 w18 x hr hd hs
 have u19 := mv s0 (fa ?b17_2 a18 w18 19 (hd 2 19 rfl rfl))
 revert s4; revert s2; revert s0; refine kp3 hs rfl ?_; intro s0 s2 s4
 have s19 := u19; clear u19
 have s17 := fa ?b17_0 a18 w18 17 (hd 0 17 rfl rfl)
 have s18 := fa ?b17_1 a18 w18 18 (hd 1 18 rfl rfl)
 have s20 := AtW.base (fa ?b17_3 a18 w18 20 (hd 3 20 rfl rfl))
 replace e_w := e_w.trans x
 replace e_w15 := e_w15.trans x; clear hd hs x
 show wpList _ _ _ [_] _ _
 have z19 := SxS.lt s18
 have l19 := (show (g11_4 = 0 ∨ w.heap.size < g11_4) ∧ True from ⟨by omega, trivial⟩)
 have l19_2 := PxS.lt (Q00 e_w15 s2)
 refine Q7j hr tu22 Q0i s18 rfl (Q00 e_w s20) ?_; clear hr; intro a19 w19 hc hu hr hs
 have hb : Below w.heap.size w18 w19 := hc.below e_w.size l19.1
 revert s4; revert s2; revert s0; refine kp3 hs rfl ?_; intro s0 s2 s4
 clear s19 s17 s18 s20
 replace s2 := PxS.other (Q00 e_w15 s2) hc (by omega)
 replace s4 := hu _ _ _ (Q00 e_w15 s4)
 try simp only [List.set_cons_zero, List.set_cons_succ, lnkS] at s4
 replace e_w := e_w.below (Nat.le_refl _) hb
 clear e_w15
 clear hu hs hc hb
 refine wpList_nil ?_
 replace s4 := PxS.cast s4 (show _ = lnkS ⟨l.take 6, (l.drop 6).take 6, [], Q0a l 12, (12 : Int) + 2⟩ (.slice none 0 0) from by rw [cpy6 (by simp; omega)]; rfl)
 have gT : OwnRA 0 w.heap.size 94 tagR [] (.slice none 0 0) w19 := Qcs
 refine es ?_
 refine wp_block ?_
 refine Q11 (fun n A W => ∃ (k p : Nat) (ts : List TagL) (v : Value) (γ : Nat), n = k ∧ Fr 62 A ∧ Same Qeb a19 A ∧ Ext w W ∧ (k ≤ 2) ∧ (ts.length + k = 2) ∧ (12 ≤ p) ∧ (p + 2 ≤ l.length) ∧ (Q0f l = Q2u l k p ts) ∧ (g11_4 ≠ γ) ∧ (g2_2 ≠ γ) ∧ (p + 4 * k = 20) ∧ (OwnRA γ w.heap.size 94 tagR ts) (v) W ∧ (PxS g2_2 w.heap.size [15] [(lnkS Q43 (.slice none 0 0)).flatten] 0) (A.eval (.tmp 2)) W ∧ (PxS g11_4 w.heap.size [6, 6, 1, 1, 1] (lnkS ⟨l.take 6, (l.drop 6).take 6, ts, Q0a l p, (p : Int) + 2⟩ v) 0) (A.eval (.tmp 4)) W) ?start20 ?_
 case start20 =>
  refine ⟨_, 2, 12, [], (.slice none 0 0), 0, rfl, hr, Same.rfl, e_w, (by omega), (by rfl), (by omega), (by omega), (by rfl), (by omega), (by omega), (by omega), gT, ?_, ?_⟩
  · exact s2
  · exact s4
 intro n20 a20 w20 hI
 clear e_w
 clear hr; obtain ⟨k, p, ts, v, γ, hn20, hr, hs, e_w, hk, hts, hp, hpl, hsr, ne4, ne2, hpk, gT, u2, u4⟩ := hI
 revert s0; refine kp1 hs rfl ?_; intro s0
 clear s2 s4
 have s2 := u2; clear u2
 have s4 := u4; clear u4
 replace s4 := PxS.cast s4 (show _ = [(l.take 6).map Q0z, ((l.drop 6).take 6).map Q0z, [v], [.int .i64 (Q0a l p)], [.int .i64 ((p : Int) + 2)]] from rfl)
 have m20 := hs; clear hs
 refine sq ?_
 refine sq ?_
 refine Q04 62 [[(4, none)], [(22, some 0)], [(23, some 1)]] [?b21_0, ?b21_1, ?b21_2] Q07 hr ?t21 ?o21 ?_
 case o21 =>
  apply oc0; intro A W hx hf
  exact Q02 3 tu46 (k := 3) rfl Q0k rfl (o1 s4 hx (r0 hf)) rfl
  apply oc0; intro A W hx hf
  exact Q09 tu3 rfl (q0 ?b21_0 A W 22 hf) rfl
  apply oc0; intro A W hx hf
  exact Q1d Qok (Qpa (q0 ?b21_1 A W 23 hf))
  exact onn
 case t21 => exact inferInstance
 clear hr; intro a22 w22 x hr hd hs
 revert s4; revert s2; revert s0; refine kp3 hs rfl ?_; intro s0 s2 s4
 have s24 := fa ?b21_2 a22 w22 24 (hd 2 24 rfl)
 replace e_w := e_w.trans x
 have e_w20 := x
 replace m20 := m20.tr hs rfl; clear hd hs x
 refine et ?_
 refine wp_cond_split (show _ = _ from s24) (fun ht => ?_) (fun ht => ?_)
 ·
  have wp := Q1a l p
  refine wp_skip ?_
  refine et ?_
  refine wp_block ?_
  refine sq ?_
  refine sq ?_
  refine Q04 62 [[(4, none)], [(25, some 0)], [(26, some 1)], [(27, some 2)]] [?b24_0, ?b24_1, ?b24_2, ?b24_3] Q07 hr ?t24 ?o24 ?_
  case o24 =>
   apply oc0; intro A W hx hf
   exact Q02 2 tu46 (k := 2) rfl Q6r rfl (o2 s4 e_w20 hx (r0 hf)) rfl
   apply oc0; intro A W hx hf
   exact Qge (Q09 tu44 rfl (q0 ?b24_0 A W 25 hf) rfl) (OwnRA.rw (Q00 (e_w20.trans hx) gT))
   apply oc0; intro A W hx hf
   exact Q9b tu44 (q0 ?b24_1 A W 26 hf)
   apply oc0; intro A W hx hf
   exact Q1f (q0 ?b24_2 A W 27 hf) (ec A (.int .i64 2))
   exact onn
  case t24 => exact inferInstance
  clear hr; intro a25 w25 x hr hd hs
  revert s4; revert s2; revert s0; refine kp3 hs rfl ?_; intro s0 s2 s4
  clear s24
  have s28 := fa ?b24_3 a25 w25 28 (hd 3 28 rfl)
  replace e_w := e_w.trans x
  replace e_w20 := e_w20.trans x
  replace m20 := m20.tr hs rfl; clear hd hs x
  refine et ?_
  refine wp_cond_split (show _ = _ from s28) (fun hk2 => ?_) (fun hk2 => ?_)
  ·
   have hk0 : k = 0 := by simp at hk2; omega
   rw [hk0] at hsr
   have hrd := hsr.trans (Q5s (by omega) ht)
   refine sq ?_
   refine Q05 (l := [_]) (rest := [_, _]) 62 [[]] [?b27_0] hr ?t27 ?o27 ?_
   case o27 =>
    apply oc0; intro A W hx hf
    exact Q0x Q63
    exact onn
   case t27 => exact inferInstance
   clear hr; intro a28 w28 x hr hd hs
   revert s2; refine kp1 hs rfl ?_; intro s2
   clear s0 s4 s28
   have s29 := fa ?b27_0 a28 w28 29 (hd 0 29 rfl)
   replace e_w := e_w.trans x
   replace e_w20 := e_w20.trans x
   replace m20 := m20.tr hs rfl; clear hd hs x
   have z29 := PxS.lt (Q00 e_w20 s2)
   have l29 := (show (g2_2 = 0 ∨ w.heap.size < g2_2) ∧ True from ⟨by omega, trivial⟩)
   have l29_gT := OwnRA.lt (Q00 e_w20 gT)
   refine Q0b hr Q2f (Q00 e_w20 s2) s29 (by exact Q58 Q3r) (by exact Q3v rfl) rfl ?_; clear hr; intro a29 w29 hc hu hr hs
   have hb : Below w.heap.size w28 w29 := hc.below e_w.size l29.1
   revert s2; refine kp1 hs rfl ?_; intro s2
   clear s29
   replace s2 := hu _ _ _ (Q00 e_w20 s2)
   try simp only [List.set_cons_zero, List.set_cons_succ, lnkS] at s2
   replace gT := OwnRA.other (Q00 e_w20 gT) hc (by omega)
   replace e_w := e_w.below (Nat.le_refl _) hb
   clear e_w20
   replace m20 := m20.tr hs rfl
   clear hu hs hc hb
   refine Q10 hr (Q06) inferInstance ?_; clear hr; intro a30 w30 x hr hd hs
   revert s2; refine kp1 hs rfl ?_; intro s2
   have s3 := hd 3 rfl (by decide)
   replace e_w := e_w.trans x
   have e_w29 := x
   replace m20 := m20.tr hs rfl; clear hd hs x
   refine wpList_nil ?_
   refine et ?_
   refine wp_ret ?_
   refine Q0d ?_
   refine Q1i ?_
   refine Q0d ?_
   refine Q1i ?_
   refine Q0d ?_
   refine Q0c Try.results57 hr tu46 rfl Q2f (Q00 e_w29 s2) e_w ?_
   first | (rw [hrd]; exact ⟨_, _, rfl, ⟨_, rfl, Q4g⟩, s3⟩) | (rw [hrd]; exact ⟨_, _, rfl, ⟨_, rfl, OwnR.mono (OwnRA.own (Q00 e_w29 gT)) hB⟩, s3⟩)
  have hk0 : k ≠ 0 := by simp at hk2; omega
  obtain ⟨kq, hkq⟩ : ∃ q, k = q + 1 := ⟨k - 1, by omega⟩
  rw [hkq] at hsr
  refine wp_skip ?_
  refine es ?_
  refine sq ?_
  refine Q04 62 [[(0, none)], [(30, some 0)], [(4, none)], [(32, some 2)], [(33, some 3)], [(31, some 1), (34, some 4)]] [?b31_0, ?b31_1, ?b31_2, ?b31_3, ?b31_4, ?b31_5] Q07 hr ?t31 ?o31 ?_
  case o31 =>
   apply oc0; intro A W hx hf
   exact Q01 (a0 := a25) (r0 hf)
   apply oc0; intro A W hx hf
   exact Q0u tu22 (p2 s0 e_w hx (q0 ?b31_0 A W 30 hf))
   apply oc0; intro A W hx hf
   exact Q02 4 tu46 (k := 4) rfl Q0k rfl (o2 s4 e_w20 hx (r0 hf)) rfl
   apply oc0; intro A W hx hf
   exact Q09 tu3 rfl (q0 ?b31_2 A W 32 hf) rfl
   apply oc0; intro A W hx hf
   exact Q0h (q0 ?b31_3 A W 33 hf) (ec A (.int .i64 4)) (by omega)
   apply oc0; intro A W hx hf
   exact Q1e (q0 ?b31_1 A W 31 hf) (q1 ?b31_4 A W 34 hf)
   exact onn
  case t31 => exact inferInstance
  clear hr; intro a32 w32 x hr hd hs
  revert s4; revert s2; revert s0; refine kp3 hs rfl ?_; intro s0 s2 s4
  clear s28
  have s35 := fa ?b31_5 a32 w32 35 (hd 5 35 rfl)
  replace e_w := e_w.trans x
  replace e_w20 := e_w20.trans x
  replace m20 := m20.tr hs rfl; clear hd hs x
  refine et ?_
  refine wp_cond_split (show _ = _ from s35) (fun h6 => ?_) (fun h6 => ?_)
  ·
   have h6 : l.length < p + 6 := by simp at h6; omega
   have hrd := hsr.trans (Q6n (by omega) ht h6)
   refine sq ?_
   refine Q05 (l := [_]) (rest := [_, _]) 62 [[]] [?b34_0] hr ?t34 ?o34 ?_
   case o34 =>
    apply oc0; intro A W hx hf
    exact Q0x Q63
    exact onn
   case t34 => exact inferInstance
   clear hr; intro a35 w35 x hr hd hs
   revert s2; refine kp1 hs rfl ?_; intro s2
   clear s0 s4 s35
   have s36 := fa ?b34_0 a35 w35 36 (hd 0 36 rfl)
   replace e_w := e_w.trans x
   replace e_w20 := e_w20.trans x
   replace m20 := m20.tr hs rfl; clear hd hs x
   have z36 := PxS.lt (Q00 e_w20 s2)
   have l36 := (show (g2_2 = 0 ∨ w.heap.size < g2_2) ∧ True from ⟨by omega, trivial⟩)
   have l36_gT := OwnRA.lt (Q00 e_w20 gT)
   refine Q0b hr Q2f (Q00 e_w20 s2) s36 (by exact Q58 Q3r) (by exact Q3v rfl) rfl ?_; clear hr; intro a36 w36 hc hu hr hs
   have hb : Below w.heap.size w35 w36 := hc.below e_w.size l36.1
   revert s2; refine kp1 hs rfl ?_; intro s2
   clear s36
   replace s2 := hu _ _ _ (Q00 e_w20 s2)
   try simp only [List.set_cons_zero, List.set_cons_succ, lnkS] at s2
   replace gT := OwnRA.other (Q00 e_w20 gT) hc (by omega)
   replace e_w := e_w.below (Nat.le_refl _) hb
   clear e_w20
   replace m20 := m20.tr hs rfl
   clear hu hs hc hb
   refine Q10 hr (Q06) inferInstance ?_; clear hr; intro a37 w37 x hr hd hs
   revert s2; refine kp1 hs rfl ?_; intro s2
   have s3 := hd 3 rfl (by decide)
   replace e_w := e_w.trans x
   have e_w36 := x
   replace m20 := m20.tr hs rfl; clear hd hs x
   refine wpList_nil ?_
   refine et ?_
   refine wp_ret ?_
   refine Q0d ?_
   refine Q1i ?_
   refine Q0d ?_
   refine Q1i ?_
   refine Q0d ?_
   refine Q0c Try.results57 hr tu46 rfl Q2f (Q00 e_w36 s2) e_w ?_
   first | (rw [hrd]; exact ⟨_, _, rfl, ⟨_, rfl, Q4g⟩, s3⟩) | (rw [hrd]; exact ⟨_, _, rfl, ⟨_, rfl, OwnR.mono (OwnRA.own (Q00 e_w36 gT)) hB⟩, s3⟩)
  have h6 : ¬ l.length < p + 6 := by simp at h6; omega
  replace hsr := hsr.trans (Q5t (by omega) ht h6)
  refine wp_skip ?_
  refine es ?_
  refine Q1l Q07 (fun w38 x => ?_)
  show wpAny _ _ _ _ 14 _ _ _
  replace e_w := e_w.trans x
  replace e_w20 := e_w20.trans x
  have e_w32 := x
  clear x
  refine Q4n (l := [_, _, _, _, _, _, _, _, _, _, _, _, _, _]) 62 _ [false, false, false, false, false, false, false, false, false, false, false, true, true, true] [11, 12, 13] [[(4, none)], [(37, some 0)], [(4, none)], [(39, some 2)], [(0, none)], [(4, none)], [(42, some 5)], [(41, some 4), (43, some 6)], [(44, some 7)], [(40, some 3), (45, some 8)], [(46, some 9)], [], [], []] [?b39_0, ?b39_1, ?b39_2, ?b39_3, ?b39_4, ?b39_5, ?b39_6, ?b39_7, ?b39_8, ?b39_9, ?b39_10, VP.top, VP.top, VP.top] (by kernel_rfl) rfl (by kernel_rfl) hr ?t39 ?o39 ?_
  case o39 =>
   apply lc0; intro A W hx hf
   exact Q02 2 tu46 (k := 2) rfl Q6r rfl (o2 s4 e_w20 hx (r0 hf)) rfl
   apply lc0; intro A W hx hf
   exact Qge (Q09 tu44 rfl (q0 ?b39_0 A W 37 hf) rfl) (Q00 (e_w20.trans hx) gT)
   apply lc0; intro A W hx hf
   exact Q02 3 tu46 (k := 3) rfl Q0k rfl (o2 s4 e_w20 hx (r0 hf)) rfl
   apply lc0; intro A W hx hf
   exact Q09 tu3 rfl (q0 ?b39_2 A W 39 hf) rfl
   apply lc0; intro A W hx hf
   exact Q01 (a0 := a32) (r0 hf)
   apply lc0; intro A W hx hf
   exact Q02 4 tu46 (k := 4) rfl Q0k rfl (o2 s4 e_w20 hx (r0 hf)) rfl
   apply lc0; intro A W hx hf
   exact Q09 tu3 rfl (q0 ?b39_5 A W 42 hf) rfl
   apply lc0; intro A W hx hf
   exact Q22 (p + 2) tu22 Q0i (sarg s0 (show _ = _ from (q0 ?b39_4 A W 41 hf))) (Is.int (q1 ?b39_6 A W 43 hf) (by omega)) (by omega)
   apply lc0; intro A W hx hf
   exact Q1d Qi6 (Qjg (AtW.now (q0 ?b39_7 A W 44 hf) (e_w.trans hx)) (by simp; omega))
   apply lc0; intro A W hx hf
   exact Q15 [(0, (.tmp 40)), (1, (.tmp 45))] [(0, _), (1, _)] Qoq rfl (PartsC.one (q0 ?b39_3 A W 40 hf) rfl (PartsC.one (q1 ?b39_8 A W 45 hf) rfl (PartsC.nil))) (by first | rfl | simp [Q0l, *])
   apply lc0; intro A W hx hf
   exact Qai (R := tagR) [(.tmp 46)] [⟨Q0a l p, Q0a (l.drop (p + 2)) 0⟩] tu44 Qcj Qia rfl rfl rfl (by decide) (PartsR.cons (Is.conv (q0 ?b39_9 A W 46 hf) rfl) (PartsR.nil)) hx.size
   refine lcs ?_
   refine lcs ?_
   refine lcs ?_
   exact lcn
  case t39 => exact inferInstance
  clear hr; intro a40 w40 x hr hd hs
  have z_w_w38 := e_w.size
  have z_w20_w38 := e_w20.size
  have z_w32_w38 := e_w32.size
  have l40_2 := PxS.lt (Q00 e_w20 s2)
  have l40_4 := PxS.lt (Q00 e_w20 s4)
  have l40_gT := OwnRA.lt (Q00 e_w20 gT)
  have u41 := mv s0 (fa ?b39_4 a40 w40 41 (hd 4 41 rfl rfl))
  revert s4; revert s2; revert s0; refine kp3 hs rfl ?_; intro s0 s2 s4
  clear s35
  have s41 := u41; clear u41
  have s37 := fa ?b39_0 a40 w40 37 (hd 0 37 rfl rfl)
  have s38 := fa ?b39_1 a40 w40 38 (hd 1 38 rfl rfl)
  have s39 := fa ?b39_2 a40 w40 39 (hd 2 39 rfl rfl)
  have s40 := fa ?b39_3 a40 w40 40 (hd 3 40 rfl rfl)
  have s42 := fa ?b39_5 a40 w40 42 (hd 5 42 rfl rfl)
  have s43 := fa ?b39_6 a40 w40 43 (hd 6 43 rfl rfl)
  have s44 := AtW.base (fa ?b39_7 a40 w40 44 (hd 7 44 rfl rfl))
  have s45 := fa ?b39_8 a40 w40 45 (hd 8 45 rfl rfl)
  have s46 := fa ?b39_9 a40 w40 46 (hd 9 46 rfl rfl)
  have s47 := fa ?b39_10 a40 w40 47 (hd 10 47 rfl rfl)
  obtain ⟨g40_47, q40_47⟩ := OwnR.at s47; clear s47; have n40_47 := OwnRA.lt q40_47
  replace q40_47 := OwnRA.mono q40_47 e_w.size
  have s47 := q40_47; clear q40_47
  replace e_w := e_w.trans x
  replace e_w20 := e_w20.trans x
  clear e_w32
  replace m20 := m20.tr hs rfl; clear hd hs x
  show wpList _ _ _ [_, _, _] _ _
  have l41 := OwnRA.lt s38
  have l41_2 := PxS.lt (Q00 e_w20 s2)
  have l41_4 := PxS.lt (Q00 e_w20 s4)
  refine Q7m hr (by decide) tu44 Qi9 rfl s38 (OwnRA.rw s47) e_w.size (by simp; omega) ?_; clear hr; intro g41 a41 w41 hg41 hc hr hd hs
  have hb := hc.below e_w.size l41.1
  revert s4; revert s2; revert s0; refine kp3 hs rfl ?_; intro s0 s2 s4
  clear s41 s37 s38 s39 s40 s42 s43 s44 s45 s46 s47
  replace s2 := PxS.other (Q00 e_w20 s2) hc (by omega)
  replace s4 := PxS.other (Q00 e_w20 s4) hc (by omega)
  have s48 := hd
  obtain ⟨vT, hsv⟩ : ∃ v, v = a41.eval (.tmp 48) := ⟨_, rfl⟩; have gT := s48; rw [← hsv] at gT; replace s48 : Is vT (a41.eval (.tmp 48)) w41 := hsv.symm; clear hsv
  replace e_w := e_w.below (Nat.le_refl _) hb
  clear e_w20
  replace m20 := m20.tr hs rfl
  clear hd hs hb hc
  refine Q10 hr (Q02 2 tu46 (k := 2) rfl Q6r rfl s4 rfl) inferInstance ?_; clear hr; intro a42 w42 x hr hd hs
  revert s48; revert s4; revert s2; revert s0; refine kp4 hs rfl ?_; intro s0 s2 s4 s48
  have s49 := hd 49 rfl (by decide)
  replace e_w := e_w.trans x
  have e_w41 := x
  replace m20 := m20.tr hs rfl; clear hd hs x
  have z43 := PxS.lt s49
  have l43 := (show (g11_4 = 0 ∨ w.heap.size < g11_4) ∧ True from ⟨by omega, trivial⟩)
  have l43_2 := PxS.lt (Q00 e_w41 s2)
  have l43_gT := OwnRA.lt (Q00 e_w41 gT)
  refine Q1g hr Q6r s49 (Q00 e_w41 s48) (by exact Q9d (OwnRA.rw gT)) rfl ?_; clear hr; intro a43 w43 hc hu hr hs
  have hb : Below w.heap.size w42 w43 := hc.below e_w.size l43.1
  revert s4; revert s2; revert s0; refine kp3 hs rfl ?_; intro s0 s2 s4
  clear s48 s49
  replace s2 := PxS.other (Q00 e_w41 s2) hc (by omega)
  replace s4 := hu _ _ _ (Q00 e_w41 s4)
  try simp only [List.set_cons_zero, List.set_cons_succ, lnkS] at s4
  replace gT := OwnRA.other (Q00 e_w41 gT) hc (by omega)
  replace e_w := e_w.below (Nat.le_refl _) hb
  clear e_w41
  replace m20 := m20.tr hs rfl
  clear hu hs hc hb
  refine wpList_nil ?_
  replace gT := OwnRA.cast gT (show _ = ts ++ [⟨Q0a l p, Q0a l (p + 2)⟩] from by rw [Q5q])
  replace s4 := PxS.cast s4 (show _ = [(l.take 6).map Q0z, ((l.drop 6).take 6).map Q0z, [vT], [.int .i64 (Q0a l p)], [.int .i64 ((p : Int) + 2)]] from rfl)
  refine es ?_
  refine Q05 (l := [_, _, _, _, _, _, _]) (rest := [_]) 62 [[(0, none)], [(4, none)], [(51, some 1)], [(52, some 2)], [(50, some 0), (53, some 3)], [(54, some 4)], [(4, none)]] [?b44_0, ?b44_1, ?b44_2, ?b44_3, ?b44_4, ?b44_5, ?b44_6] hr ?t44 ?o44 ?_
  case o44 =>
   apply oc0; intro A W hx hf
   exact Q01 (a0 := a43) (r0 hf)
   apply oc0; intro A W hx hf
   exact Q02 4 tu46 (k := 4) rfl Q0k rfl (o1 s4 hx (r0 hf)) rfl
   apply oc0; intro A W hx hf
   exact Q09 tu3 rfl (q0 ?b44_1 A W 51 hf) rfl
   apply oc0; intro A W hx hf
   exact Q0h (q0 ?b44_2 A W 52 hf) (ec A (.int .i64 2)) (by omega)
   apply oc0; intro A W hx hf
   exact Q22 (p + 4) tu22 Q0i (sarg s0 (show _ = _ from (q0 ?b44_0 A W 50 hf))) (Is.int (q1 ?b44_3 A W 53 hf) (by omega)) (by omega)
   apply oc0; intro A W hx hf
   exact Q1d Qi6 (Qjg (AtW.now (q0 ?b44_4 A W 54 hf) (e_w.trans hx)) (by simp; omega))
   apply oc0; intro A W hx hf
   exact Q02 3 tu46 (k := 3) rfl Q0k rfl (o1 s4 hx (r0 hf)) rfl
   exact onn
  case t44 => exact inferInstance
  clear hr; intro a45 w45 x hr hd hs
  revert s4; revert s2; revert s0; refine kp3 hs rfl ?_; intro s0 s2 s4
  have s55 := fa ?b44_5 a45 w45 55 (hd 5 55 rfl)
  have s56 := fa ?b44_6 a45 w45 56 (hd 6 56 rfl)
  replace e_w := e_w.trans x
  have e_w43 := x
  replace m20 := m20.tr hs rfl; clear hd hs x
  have z46 := PxS.lt s56
  have l46 := (show (g11_4 = 0 ∨ w.heap.size < g11_4) ∧ True from ⟨by omega, trivial⟩)
  have l46_2 := PxS.lt (Q00 e_w43 s2)
  have l46_gT := OwnRA.lt (Q00 e_w43 gT)
  refine Q1g hr Q0k s56 (Is.int s55 (show _ = Q0a l (p + 4) from by rw [Q5q])) (by rfl) rfl ?_; clear hr; intro a46 w46 hc hu hr hs
  have hb : Below w.heap.size w45 w46 := hc.below e_w.size l46.1
  revert s4; revert s2; revert s0; refine kp3 hs rfl ?_; intro s0 s2 s4
  clear s55 s56
  replace s2 := PxS.other (Q00 e_w43 s2) hc (by omega)
  replace s4 := hu _ _ _ (Q00 e_w43 s4)
  try simp only [List.set_cons_zero, List.set_cons_succ, lnkS] at s4
  replace gT := OwnRA.other (Q00 e_w43 gT) hc (by omega)
  replace e_w := e_w.below (Nat.le_refl _) hb
  clear e_w43
  replace m20 := m20.tr hs rfl
  clear hu hs hc hb
  refine wpList_nil ?_
  replace s4 := PxS.cast s4 (show _ = [(l.take 6).map Q0z, ((l.drop 6).take 6).map Q0z, [vT], [.int .i64 (Q0a l (p + 4))], [.int .i64 ((p : Int) + 2)]] from rfl)
  refine et ?_
  refine Q05 (l := [_, _, _, _]) (rest := [_]) 62 [[(4, none)], [(57, some 0)], [(58, some 1)], [(4, none)]] [?b47_0, ?b47_1, ?b47_2, ?b47_3] hr ?t47 ?o47 ?_
  case o47 =>
   apply oc0; intro A W hx hf
   exact Q02 4 tu46 (k := 4) rfl Q0k rfl (o1 s4 hx (r0 hf)) rfl
   apply oc0; intro A W hx hf
   exact Q09 tu3 rfl (q0 ?b47_0 A W 57 hf) rfl
   apply oc0; intro A W hx hf
   exact Q0h (q0 ?b47_1 A W 58 hf) (ec A (.int .i64 4)) (by omega)
   apply oc0; intro A W hx hf
   exact Q02 4 tu46 (k := 4) rfl Q0k rfl (o1 s4 hx (r0 hf)) rfl
   exact onn
  case t47 => exact inferInstance
  clear hr; intro a48 w48 x hr hd hs
  revert s4; revert s2; revert s0; refine kp3 hs rfl ?_; intro s0 s2 s4
  have s59 := fa ?b47_2 a48 w48 59 (hd 2 59 rfl)
  have s60 := fa ?b47_3 a48 w48 60 (hd 3 60 rfl)
  replace e_w := e_w.trans x
  have e_w46 := x
  replace m20 := m20.tr hs rfl; clear hd hs x
  have z49 := PxS.lt s60
  have l49 := (show (g11_4 = 0 ∨ w.heap.size < g11_4) ∧ True from ⟨by omega, trivial⟩)
  have l49_2 := PxS.lt (Q00 e_w46 s2)
  have l49_gT := OwnRA.lt (Q00 e_w46 gT)
  refine Q1g hr Q0k s60 (Is.int s59 (show _ = ((p + 4 : Nat) : Int) + 2 from by omega)) (by rfl) rfl ?_; clear hr; intro a49 w49 hc hu hr hs
  have hb : Below w.heap.size w48 w49 := hc.below e_w.size l49.1
  revert s4; revert s2; revert s0; refine kp3 hs rfl ?_; intro s0 s2 s4
  clear s59 s60
  replace s2 := PxS.other (Q00 e_w46 s2) hc (by omega)
  replace s4 := hu _ _ _ (Q00 e_w46 s4)
  try simp only [List.set_cons_zero, List.set_cons_succ, lnkS] at s4
  replace gT := OwnRA.other (Q00 e_w46 gT) hc (by omega)
  replace e_w := e_w.below (Nat.le_refl _) hb
  clear e_w46
  replace m20 := m20.tr hs rfl
  clear hu hs hc hb
  refine wpList_nil ?_
  refine Q0w ?_
  refine et ?_
  refine ⟨(fun (k p : Nat) (ts : List TagL) (v : Value) (γ : Nat) => k) (kq) (p + 4) (ts ++ [⟨Q0a l p, Q0a l (p + 2)⟩]) (vT) (0), ?_, ?_⟩
  · (try dsimp only); omega
  refine ⟨kq, p + 4, ts ++ [⟨Q0a l p, Q0a l (p + 2)⟩], vT, g41, rfl, hr, m20, e_w, (by omega), (by simp; omega), (by omega), (by omega), (by exact hsr), (by omega), (by omega), (by omega), gT, ?_, ?_⟩
  · exact s2
  · exact s4
 have hrd := hsr.trans (Q3w (by omega) ht)
 refine wp_exit ?_
 refine Q0g ?_
 refine Q0g ?_
 refine Q1b ?_
 refine es ?_
 refine Q05 (l := [_]) (rest := [_, _]) 62 [[(4, none)]] [?b50_0] hr ?t50 ?o50 ?_
 case o50 =>
  apply oc0; intro A W hx hf
  exact Q0j 5 tu46 rfl Q2f (o2 s4 e_w20 hx (r0 hf)) rfl
  exact onn
 case t50 => exact inferInstance
 clear hr; intro a51 w51 x hr hd hs
 revert s2; refine kp1 hs rfl ?_; intro s2
 clear s0 s4 s24
 have s61 := fa ?b50_0 a51 w51 61 (hd 0 61 rfl)
 replace e_w := e_w.trans x
 replace e_w20 := e_w20.trans x; clear hd hs x
 have z52 := PxS.lt (Q00 e_w20 s2)
 have l52 := (show (g2_2 = 0 ∨ w.heap.size < g2_2) ∧ True from ⟨by omega, trivial⟩)
 have l52_gT := OwnRA.lt (Q00 e_w20 gT)
 refine Q0b hr Q2f (Q00 e_w20 s2) (Is.conv s61 (Qip (L := ⟨l.take 6, (l.drop 6).take 6, ts, Q0a l p, (p : Int) + 2⟩) (v := v))) (by exact Q58 ⟨by simp; omega, by simp; omega⟩) (by exact Q3v (Q9d (OwnRA.rw gT))) rfl ?_; clear hr; intro a52 w52 hc hu hr hs
 have hb : Below w.heap.size w51 w52 := hc.below e_w.size l52.1
 revert s2; refine kp1 hs rfl ?_; intro s2
 clear s61
 replace s2 := hu _ _ _ (Q00 e_w20 s2)
 try simp only [List.set_cons_zero, List.set_cons_succ, lnkS] at s2
 replace gT := OwnRA.other (Q00 e_w20 gT) hc (by omega)
 replace e_w := e_w.below (Nat.le_refl _) hb
 clear e_w20
 clear hu hs hc hb
 refine Q10 hr (Q06) inferInstance ?_; clear hr; intro a53 w53 x hr hd hs
 revert s2; refine kp1 hs rfl ?_; intro s2
 have s3 := hd 3 rfl (by decide)
 replace e_w := e_w.trans x
 have e_w52 := x; clear hd hs x
 refine wpList_nil ?_
 refine et ?_
 refine wp_ret ?_
 refine Q0c Try.results57 hr tu46 rfl Q2f (Q00 e_w52 s2) e_w ?_
 first | (rw [hrd]; exact ⟨_, _, rfl, ⟨_, rfl, Q4g⟩, s3⟩) | (rw [hrd]; exact ⟨_, _, rfl, ⟨_, rfl, OwnR.mono (OwnRA.own (Q00 e_w52 gT)) hB⟩, s3⟩)

def Qcz : List Tmp := [3, 5, 7, 8, 9, 10, 11, 12, 13, 14, 15, 16, 17, 18, 19, 20, 21, 22, 23, 24, 25, 26, 27, 28, 29, 30, 31, 32, 33, 34, 35, 36, 37, 38, 39, 40, 41, 42, 43]
def Qd0 : List Tmp := [6, 50, 51, 52, 53, 54, 55, 56, 57, 58, 59, 60, 61, 62, 63, 64, 65, 66, 67, 68]
set_option maxHeartbeats 1000000 in
theorem Qku {x0 : Value} {w : World} {l : List UInt8} {B : Nat} (h0 : (Bs l) x0 w) (hn : l.length ≤ 1000000000000) (hB : B ≤ w.heap.size) :
    Calls Try.prog 23 #[x0] w (Ret (Tup2 (LinkO B 94 (Q0f l).1) (Is (.int .i64 (Q0f l).2))) w) := by
 have hlen := Bs.len_le h0
 refine enter Try.func23 rfl Try.ntmps23 (k := 1) rfl (by decide) (fun a0 hr hargs => ?_)
 have s0 := sarg h0 (hargs 0 (by decide))
 clear hargs
 refine sq ?_
 refine Q04 77 [[], []] [?b1_0, ?b1_1] Q07 hr ?t1 ?o1 ?_
 case o1 =>
  apply oc0; intro A W hx hf
  exact Q0v [(lnkS Q43 (.slice none 0 0)).flatten] [15] Q71 (by rfl) (by rfl) hx.size
  apply oc0; intro A W hx hf
  exact Q06
  exact onn
 case t1 => exact inferInstance
 clear hr; intro a2 w2 x hr hd hs
 revert s0; refine kp1 hs rfl ?_; intro s0
 have s2 := fa ?b1_0 a2 w2 2 (hd 0 2 rfl)
 obtain ⟨g2_2, q2_2⟩ := PxN.at s2; clear s2; have n2_2 := PxS.lt q2_2
 have s2 := q2_2; clear q2_2
 have e_w := x; clear hd hs x
 refine es ?_
 refine Q04 77 [[]] [?b3_0] Q07 hr ?t3 ?o3 ?_
 case o3 =>
  apply oc0; intro A W hx hf
  exact Q0v (lnkS Q43 (.slice none 0 0)) [6, 6, 1, 1, 1] Q71 (by rfl) (by rfl) hx.size
  exact onn
 case t3 => exact inferInstance
 clear hr; intro a4 w4 x hr hd hs
 have z_w_w2 := e_w.size
 have l4_2 := PxS.lt s2
 revert s2; revert s0; refine kp2 hs rfl ?_; intro s0 s2
 have s4 := fa ?b3_0 a4 w4 4 (hd 0 4 rfl)
 obtain ⟨g4_4, q4_4⟩ := PxN.at s4; clear s4; have n4_4 := PxS.lt q4_4
 replace q4_4 := PxS.mono q4_4 e_w.size
 have s4 := q4_4; clear q4_4
 replace e_w := e_w.trans x
 have e_w2 := x; clear hd hs x
 have gT : OwnRA 0 w.heap.size 94 tagR [] (.slice none 0 0) w4 := Qcs
 refine es ?_
 refine Q04 77 [[]] [?b5_0] Q07 hr ?t5 ?o5 ?_
 case o5 =>
  apply oc0; intro A W hx hf
  exact Q06
  exact onn
 case t5 => exact inferInstance
 clear hr; intro a6 w6 x hr hd hs
 revert s4; revert s2; revert s0; refine kp3 hs rfl ?_; intro s0 s2 s4
 have s5 := fa ?b5_0 a6 w6 5 (hd 0 5 rfl)
 replace e_w := e_w.trans x
 replace e_w2 := e_w2.trans x
 have e_w4 := x; clear hd hs x
 refine es ?_
 refine wp_block ?_
 refine Q11 (fun n A W => ∃ (k p : Nat) (ts : List TagL) (v : Value) (γ : Nat), n = k ∧ Fr 77 A ∧ Same Qcz a6 A ∧ Ext w W ∧ (k ≤ 2) ∧ (ts.length + k = 2) ∧ (12 ≤ p) ∧ (p ≤ 20) ∧ (Q0f l = Q2u l k p ts) ∧ (g4_4 ≠ γ) ∧ (g2_2 ≠ γ) ∧ (p + 4 * k = 20) ∧ (OwnRA γ w.heap.size 94 tagR ts) (v) W ∧ (PxS g2_2 w.heap.size [15] [(lnkS Q43 (.slice none 0 0)).flatten] 0) (A.eval (.tmp 2)) W ∧ (PxS g4_4 w.heap.size [6, 6, 1, 1, 1] (lnkS ⟨List.replicate 6 0, List.replicate 6 0, ts, 0, 0⟩ v) 0) (A.eval (.tmp 4)) W ∧ (Is (.int .i64 (p : Int))) (A.eval (.tmp 5)) W) ?start7 ?_
 case start7 =>
  refine ⟨_, 2, 12, [], (.slice none 0 0), 0, rfl, hr, Same.rfl, e_w, (by omega), (by rfl), (by omega), (by omega), (by rfl), (by omega), (by omega), (by omega), (Q00 e_w4 gT), ?_, ?_, ?_⟩
  · exact (Q00 e_w2 s2)
  · exact (Q00 e_w4 s4)
  · first | exact s5 | exact Is.int s5 (by first | omega | simp) | exact Is.bool s5 (by first | omega | simp)
 intro n7 a7 w7 hI
 clear e_w
 clear e_w2
 clear e_w4
 clear hr; obtain ⟨k, p, ts, v, γ, hn7, hr, hs, e_w, hk, hts, hp, hp20, hsr, ne4, ne2, hpk, gT, u2, u4, u5⟩ := hI
 revert s0; refine kp1 hs rfl ?_; intro s0
 clear s2 s4 s5
 have s2 := u2; clear u2
 have s4 := u4; clear u4
 have s5 := u5; clear u5
 have m7 := hs; clear hs
 refine sq ?_
 refine sq ?_
 refine Q04 77 [[(0, none)], [(7, some 0)], [(5, none)], [(9, some 2)], [(8, some 1), (10, some 3)], [(11, some 4)], [(0, none), (12, some 5)], [(5, none), (12, some 5)], [(13, some 6), (14, some 7), (12, some 5)], [(15, some 8), (12, some 5)], [(12, some 5), (16, some 9)]] [?b8_0, ?b8_1, ?b8_2, ?b8_3, ?b8_4, ?b8_4, ?b8_6, ?b8_7, ?b8_8, ?b8_9, ?b8_10] Q07 hr ?t8 ?o8 ?_
 case o8 =>
  apply oc0; intro A W hx hf
  exact Q01 (a0 := a7) (r0 hf)
  apply oc0; intro A W hx hf
  exact Q0u tu22 (p2 s0 e_w hx (q0 ?b8_0 A W 7 hf))
  apply oc0; intro A W hx hf
  exact Q01 (a0 := a7) (r0 hf)
  apply oc0; intro A W hx hf
  exact Q0h (p1 s5 hx (q0 ?b8_2 A W 9 hf)) (ec A (.int .i64 2)) (by omega)
  apply oc0; intro A W hx hf
  exact Qgv (q0 ?b8_1 A W 8 hf) (q1 ?b8_3 A W 10 hf)
  apply oc0; intro A W hx hf
  exact Q0p (q0 ?b8_4 A W 11 hf)
  refine ocg 12 ?_ (fun A W hx hf => ?_) ?_
  rfl
  exact gd_t (q1 ?b8_4 A W 12 hf) (fun hc => Q01 (a0 := a7) (r0 hf))
  refine ocg 12 ?_ (fun A W hx hf => ?_) ?_
  rfl
  exact gd_t (q1 ?b8_4 A W 12 hf) (fun hc => Q01 (a0 := a7) (r0 hf))
  refine ocg 12 ?_ (fun A W hx hf => ?_) ?_
  rfl
  exact gd_t (q2 ?b8_4 A W 12 hf) (fun hc => Q0t Qff (Qbf (p2 s0 e_w hx (G.get (q0 ?b8_6 A W 13 hf) hc)) (p1 s5 hx (G.get (q1 ?b8_7 A W 14 hf) hc)) (by omega) (by simp at hc; show (p : Int).toNat + 2 ≤ _; omega)))
  refine ocg 12 ?_ (fun A W hx hf => ?_) ?_
  rfl
  exact gd_t (q1 ?b8_4 A W 12 hf) (fun hc => Q1d Qoc (Qn0 (G.get (q0 ?b8_8 A W 15 hf) hc)))
  apply oc0; intro A W hx hf
  exact Q2s (q0 ?b8_4 A W 12 hf) (q1 ?b8_9 A W 16 hf)
  exact onn
 case t8 => exact inferInstance
 clear hr; intro a9 w9 x hr hd hs
 revert s5; revert s4; revert s2; revert s0; refine kp4 hs rfl ?_; intro s0 s2 s4 s5
 have s17 := fa ?b8_10 a9 w9 17 (hd 10 17 rfl)
 replace e_w := e_w.trans x
 have e_w7 := x
 replace m7 := m7.tr hs rfl; clear hd hs x
 refine et ?_
 refine wp_cond_split (show _ = _ from s17) (fun ht => ?_) (fun ht => ?_)
 ·
  obtain ⟨hnl, ht⟩ := Qpn ht
  refine wp_skip ?_
  refine et ?_
  refine wp_block ?_
  refine sq ?_
  refine sq ?_
  refine Q04 77 [[(4, none)], [(18, some 0)], [(19, some 1)], [(20, some 2)]] [?b11_0, ?b11_1, ?b11_2, ?b11_3] Q07 hr ?t11 ?o11 ?_
  case o11 =>
   apply oc0; intro A W hx hf
   exact Q02 2 tu46 (k := 2) rfl Q6r rfl (o2 s4 e_w7 hx (r0 hf)) rfl
   apply oc0; intro A W hx hf
   exact Qge (Q09 tu44 rfl (q0 ?b11_0 A W 18 hf) rfl) (OwnRA.rw (Q00 (e_w7.trans hx) gT))
   apply oc0; intro A W hx hf
   exact Q9b tu44 (q0 ?b11_1 A W 19 hf)
   apply oc0; intro A W hx hf
   exact Q1f (q0 ?b11_2 A W 20 hf) (ec A (.int .i64 2))
   exact onn
  case t11 => exact inferInstance
  clear hr; intro a12 w12 x hr hd hs
  revert s5; revert s4; revert s2; revert s0; refine kp4 hs rfl ?_; intro s0 s2 s4 s5
  clear s17
  have s21 := fa ?b11_3 a12 w12 21 (hd 3 21 rfl)
  replace e_w := e_w.trans x
  replace e_w7 := e_w7.trans x
  replace m7 := m7.tr hs rfl; clear hd hs x
  refine et ?_
  refine wp_cond_split (show _ = _ from s21) (fun hk2 => ?_) (fun hk2 => ?_)
  ·
   have hk0 : k = 0 := by simp at hk2; omega
   rw [hk0] at hsr
   have hrd := hsr.trans (Q5s hnl ht)
   refine sq ?_
   refine Q05 (l := [_]) (rest := [_, _]) 77 [[]] [?b14_0] hr ?t14 ?o14 ?_
   case o14 =>
    apply oc0; intro A W hx hf
    exact Q0x Q63
    exact onn
   case t14 => exact inferInstance
   clear hr; intro a15 w15 x hr hd hs
   revert s2; refine kp1 hs rfl ?_; intro s2
   clear s0 s4 s5 s21
   have s22 := fa ?b14_0 a15 w15 22 (hd 0 22 rfl)
   replace e_w := e_w.trans x
   replace e_w7 := e_w7.trans x
   replace m7 := m7.tr hs rfl; clear hd hs x
   have z16 := PxS.lt (Q00 e_w7 s2)
   have l16 := (show (g2_2 = 0 ∨ w.heap.size < g2_2) ∧ True from ⟨by omega, trivial⟩)
   have l16_gT := OwnRA.lt (Q00 e_w7 gT)
   refine Q0b hr Q2f (Q00 e_w7 s2) s22 (by exact Q58 Q3r) (by exact Q3v rfl) rfl ?_; clear hr; intro a16 w16 hc hu hr hs
   have hb : Below w.heap.size w15 w16 := hc.below e_w.size l16.1
   revert s2; refine kp1 hs rfl ?_; intro s2
   clear s22
   replace s2 := hu _ _ _ (Q00 e_w7 s2)
   try simp only [List.set_cons_zero, List.set_cons_succ, lnkS] at s2
   replace gT := OwnRA.other (Q00 e_w7 gT) hc (by omega)
   replace e_w := e_w.below (Nat.le_refl _) hb
   clear e_w7
   replace m7 := m7.tr hs rfl
   clear hu hs hc hb
   refine Q10 hr (Q06) inferInstance ?_; clear hr; intro a17 w17 x hr hd hs
   revert s2; refine kp1 hs rfl ?_; intro s2
   have s3 := hd 3 rfl (by decide)
   replace e_w := e_w.trans x
   have e_w16 := x
   replace m7 := m7.tr hs rfl; clear hd hs x
   refine wpList_nil ?_
   refine et ?_
   refine wp_ret ?_
   refine Q0d ?_
   refine Q1i ?_
   refine Q0d ?_
   refine Q1i ?_
   refine Q0d ?_
   refine Q0c Try.results23 hr tu46 rfl Q2f (Q00 e_w16 s2) e_w ?_
   first | (rw [hrd]; exact ⟨_, _, rfl, ⟨_, rfl, Q4g⟩, s3⟩) | (rw [hrd]; exact ⟨_, _, rfl, ⟨_, rfl, OwnR.mono (OwnRA.own (Q00 e_w16 gT)) hB⟩, s3⟩)
  have hk0 : k ≠ 0 := by simp at hk2; omega
  obtain ⟨kq, hkq⟩ : ∃ q, k = q + 1 := ⟨k - 1, by omega⟩
  rw [hkq] at hsr
  refine wp_skip ?_
  refine es ?_
  refine sq ?_
  refine Q04 77 [[(0, none)], [(23, some 0)], [(5, none)], [(25, some 2)], [(24, some 1), (26, some 3)]] [?b18_0, ?b18_1, ?b18_2, ?b18_3, ?b18_4] Q07 hr ?t18 ?o18 ?_
  case o18 =>
   apply oc0; intro A W hx hf
   exact Q01 (a0 := a12) (r0 hf)
   apply oc0; intro A W hx hf
   exact Q0u tu22 (p2 s0 e_w hx (q0 ?b18_0 A W 23 hf))
   apply oc0; intro A W hx hf
   exact Q01 (a0 := a12) (r0 hf)
   apply oc0; intro A W hx hf
   exact Q0h (p2 s5 e_w7 hx (q0 ?b18_2 A W 25 hf)) (ec A (.int .i64 6)) (by omega)
   apply oc0; intro A W hx hf
   exact Q1e (q0 ?b18_1 A W 24 hf) (q1 ?b18_3 A W 26 hf)
   exact onn
  case t18 => exact inferInstance
  clear hr; intro a19 w19 x hr hd hs
  revert s5; revert s4; revert s2; revert s0; refine kp4 hs rfl ?_; intro s0 s2 s4 s5
  clear s21
  have s27 := fa ?b18_4 a19 w19 27 (hd 4 27 rfl)
  replace e_w := e_w.trans x
  replace e_w7 := e_w7.trans x
  replace m7 := m7.tr hs rfl; clear hd hs x
  refine et ?_
  refine wp_cond_split (show _ = _ from s27) (fun h6 => ?_) (fun h6 => ?_)
  ·
   have h6 : l.length < p + 6 := by simp at h6; omega
   have hrd := hsr.trans (Q6n hnl ht h6)
   refine sq ?_
   refine Q05 (l := [_]) (rest := [_, _]) 77 [[]] [?b21_0] hr ?t21 ?o21 ?_
   case o21 =>
    apply oc0; intro A W hx hf
    exact Q0x Q63
    exact onn
   case t21 => exact inferInstance
   clear hr; intro a22 w22 x hr hd hs
   revert s2; refine kp1 hs rfl ?_; intro s2
   clear s0 s4 s5 s27
   have s28 := fa ?b21_0 a22 w22 28 (hd 0 28 rfl)
   replace e_w := e_w.trans x
   replace e_w7 := e_w7.trans x
   replace m7 := m7.tr hs rfl; clear hd hs x
   have z23 := PxS.lt (Q00 e_w7 s2)
   have l23 := (show (g2_2 = 0 ∨ w.heap.size < g2_2) ∧ True from ⟨by omega, trivial⟩)
   have l23_gT := OwnRA.lt (Q00 e_w7 gT)
   refine Q0b hr Q2f (Q00 e_w7 s2) s28 (by exact Q58 Q3r) (by exact Q3v rfl) rfl ?_; clear hr; intro a23 w23 hc hu hr hs
   have hb : Below w.heap.size w22 w23 := hc.below e_w.size l23.1
   revert s2; refine kp1 hs rfl ?_; intro s2
   clear s28
   replace s2 := hu _ _ _ (Q00 e_w7 s2)
   try simp only [List.set_cons_zero, List.set_cons_succ, lnkS] at s2
   replace gT := OwnRA.other (Q00 e_w7 gT) hc (by omega)
   replace e_w := e_w.below (Nat.le_refl _) hb
   clear e_w7
   replace m7 := m7.tr hs rfl
   clear hu hs hc hb
   refine Q10 hr (Q06) inferInstance ?_; clear hr; intro a24 w24 x hr hd hs
   revert s2; refine kp1 hs rfl ?_; intro s2
   have s3 := hd 3 rfl (by decide)
   replace e_w := e_w.trans x
   have e_w23 := x
   replace m7 := m7.tr hs rfl; clear hd hs x
   refine wpList_nil ?_
   refine et ?_
   refine wp_ret ?_
   refine Q0d ?_
   refine Q1i ?_
   refine Q0d ?_
   refine Q1i ?_
   refine Q0d ?_
   refine Q0c Try.results23 hr tu46 rfl Q2f (Q00 e_w23 s2) e_w ?_
   first | (rw [hrd]; exact ⟨_, _, rfl, ⟨_, rfl, Q4g⟩, s3⟩) | (rw [hrd]; exact ⟨_, _, rfl, ⟨_, rfl, OwnR.mono (OwnRA.own (Q00 e_w23 gT)) hB⟩, s3⟩)
  have h6 : ¬ l.length < p + 6 := by simp at h6; omega
  replace hsr := hsr.trans (Q5t hnl ht h6)
  refine wp_skip ?_
  refine es ?_
  refine Q1l Q07 (fun w25 x => ?_)
  show wpAny _ _ _ _ 14 _ _ _
  replace e_w := e_w.trans x
  replace e_w7 := e_w7.trans x
  have e_w19 := x
  clear x
  refine Q4n (l := [_, _, _, _, _, _, _, _, _, _, _, _, _, _]) 77 _ [false, false, false, false, false, false, false, false, false, false, false, true, true, true] [11, 12, 13] [[(4, none)], [(29, some 0)], [(0, none)], [(5, none)], [(31, some 2), (32, some 3)], [(0, none)], [(5, none)], [(35, some 6)], [(34, some 5), (36, some 7)], [(33, some 4), (37, some 8)], [(38, some 9)], [], [], []] [?b26_0, ?b26_1, ?b26_2, ?b26_3, ?b26_4, ?b26_5, ?b26_6, ?b26_7, ?b26_8, ?b26_9, ?b26_10, VP.top, VP.top, VP.top] (by kernel_rfl) rfl (by kernel_rfl) hr ?t26 ?o26 ?_
  case o26 =>
   apply lc0; intro A W hx hf
   exact Q02 2 tu46 (k := 2) rfl Q6r rfl (o2 s4 e_w7 hx (r0 hf)) rfl
   apply lc0; intro A W hx hf
   exact Qge (Q09 tu44 rfl (q0 ?b26_0 A W 29 hf) rfl) (Q00 (e_w7.trans hx) gT)
   apply lc0; intro A W hx hf
   exact Q01 (a0 := a19) (r0 hf)
   apply lc0; intro A W hx hf
   exact Q01 (a0 := a19) (r0 hf)
   apply lc0; intro A W hx hf
   exact Q0t Qff (Qbf (p2 s0 e_w hx (q0 ?b26_2 A W 31 hf)) (p2 s5 e_w7 hx (q1 ?b26_3 A W 32 hf)) (by omega) (by show (p : Int).toNat + 2 ≤ _; omega))
   apply lc0; intro A W hx hf
   exact Q01 (a0 := a19) (r0 hf)
   apply lc0; intro A W hx hf
   exact Q01 (a0 := a19) (r0 hf)
   apply lc0; intro A W hx hf
   exact Q0h (p2 s5 e_w7 hx (q0 ?b26_6 A W 35 hf)) (ec A (.int .i64 2)) (by omega)
   apply lc0; intro A W hx hf
   exact Q0t Qff (Qbf (p2 s0 e_w hx (q0 ?b26_5 A W 34 hf)) (q1 ?b26_7 A W 36 hf) (by omega) (by show ((p : Int) + 2).toNat + 2 ≤ _; omega))
   apply lc0; intro A W hx hf
   exact Q15 [(0, (.tmp 33)), (1, (.tmp 37))] [(0, _), (1, _)] Qoq rfl (PartsC.one (q0 ?b26_4 A W 33 hf) rfl (PartsC.one (q1 ?b26_8 A W 37 hf) rfl (PartsC.nil))) (by first | rfl | simp [Q0l, *])
   apply lc0; intro A W hx hf
   exact Qai (R := tagR) [(.tmp 38)] [⟨Q0a l p, Q0a l (p + 2)⟩] tu44 Qcj Qia rfl rfl rfl (by decide) (PartsR.cons (Is.conv (q0 ?b26_9 A W 38 hf) rfl) (PartsR.nil)) hx.size
   refine lcs ?_
   refine lcs ?_
   refine lcs ?_
   exact lcn
  case t26 => exact inferInstance
  clear hr; intro a27 w27 x hr hd hs
  have z_w_w25 := e_w.size
  have z_w7_w25 := e_w7.size
  have z_w19_w25 := e_w19.size
  have l27_2 := PxS.lt (Q00 e_w7 s2)
  have l27_4 := PxS.lt (Q00 e_w7 s4)
  have l27_gT := OwnRA.lt (Q00 e_w7 gT)
  have u31 := mv s0 (fa ?b26_2 a27 w27 31 (hd 2 31 rfl rfl))
  have u32 := mv s5 (fa ?b26_3 a27 w27 32 (hd 3 32 rfl rfl))
  have u34 := mv s0 (fa ?b26_5 a27 w27 34 (hd 5 34 rfl rfl))
  have u35 := mv s5 (fa ?b26_6 a27 w27 35 (hd 6 35 rfl rfl))
  revert s5; revert s4; revert s2; revert s0; refine kp4 hs rfl ?_; intro s0 s2 s4 s5
  clear s27
  have s31 := u31; clear u31
  have s32 := u32; clear u32
  have s34 := u34; clear u34
  have s35 := u35; clear u35
  have s29 := fa ?b26_0 a27 w27 29 (hd 0 29 rfl rfl)
  have s30 := fa ?b26_1 a27 w27 30 (hd 1 30 rfl rfl)
  have s33 := fa ?b26_4 a27 w27 33 (hd 4 33 rfl rfl)
  have s36 := fa ?b26_7 a27 w27 36 (hd 7 36 rfl rfl)
  have s37 := fa ?b26_8 a27 w27 37 (hd 8 37 rfl rfl)
  have s38 := fa ?b26_9 a27 w27 38 (hd 9 38 rfl rfl)
  have s39 := fa ?b26_10 a27 w27 39 (hd 10 39 rfl rfl)
  obtain ⟨g27_39, q27_39⟩ := OwnR.at s39; clear s39; have n27_39 := OwnRA.lt q27_39
  replace q27_39 := OwnRA.mono q27_39 e_w.size
  have s39 := q27_39; clear q27_39
  replace e_w := e_w.trans x
  replace e_w7 := e_w7.trans x
  clear e_w19
  replace m7 := m7.tr hs rfl; clear hd hs x
  show wpList _ _ _ [_, _, _] _ _
  have l28 := OwnRA.lt s30
  have l28_2 := PxS.lt (Q00 e_w7 s2)
  have l28_4 := PxS.lt (Q00 e_w7 s4)
  refine Q7m hr (by decide) tu44 Qi9 rfl s30 (OwnRA.rw s39) e_w.size (by simp; omega) ?_; clear hr; intro g28 a28 w28 hg28 hc hr hd hs
  have hb := hc.below e_w.size l28.1
  revert s5; revert s4; revert s2; revert s0; refine kp4 hs rfl ?_; intro s0 s2 s4 s5
  clear s31 s32 s34 s35 s29 s30 s33 s36 s37 s38 s39
  replace s2 := PxS.other (Q00 e_w7 s2) hc (by omega)
  replace s4 := PxS.other (Q00 e_w7 s4) hc (by omega)
  have s40 := hd
  obtain ⟨vT, hsv⟩ : ∃ v, v = a28.eval (.tmp 40) := ⟨_, rfl⟩; have gT := s40; rw [← hsv] at gT; replace s40 : Is vT (a28.eval (.tmp 40)) w28 := hsv.symm; clear hsv
  replace e_w := e_w.below (Nat.le_refl _) hb
  clear e_w7
  replace s5 := anyw (w2 := w28) s5
  replace m7 := m7.tr hs rfl
  clear hd hs hb hc
  refine Q10 hr (Q02 2 tu46 (k := 2) rfl Q6r rfl s4 rfl) inferInstance ?_; clear hr; intro a29 w29 x hr hd hs
  revert s5; revert s40; revert s4; revert s2; revert s0; refine kp5 hs rfl ?_; intro s0 s2 s4 s40 s5
  have s41 := hd 41 rfl (by decide)
  replace e_w := e_w.trans x
  have e_w28 := x
  replace m7 := m7.tr hs rfl; clear hd hs x
  have z30 := PxS.lt s41
  have l30 := (show (g4_4 = 0 ∨ w.heap.size < g4_4) ∧ True from ⟨by omega, trivial⟩)
  have l30_2 := PxS.lt (Q00 e_w28 s2)
  have l30_gT := OwnRA.lt (Q00 e_w28 gT)
  refine Q1g hr Q6r s41 (Q00 e_w28 s40) (by exact Q9d (OwnRA.rw gT)) rfl ?_; clear hr; intro a30 w30 hc hu hr hs
  have hb : Below w.heap.size w29 w30 := hc.below e_w.size l30.1
  revert s5; revert s4; revert s2; revert s0; refine kp4 hs rfl ?_; intro s0 s2 s4 s5
  clear s40 s41
  replace s2 := PxS.other (Q00 e_w28 s2) hc (by omega)
  replace s4 := hu _ _ _ (Q00 e_w28 s4)
  try simp only [List.set_cons_zero, List.set_cons_succ, lnkS] at s4
  replace gT := OwnRA.other (Q00 e_w28 gT) hc (by omega)
  replace e_w := e_w.below (Nat.le_refl _) hb
  clear e_w28
  replace s5 := anyw (w2 := w30) s5
  replace m7 := m7.tr hs rfl
  clear hu hs hc hb
  refine wpList_nil ?_
  refine et ?_
  refine Q04 77 [[(5, none)], [(42, some 0)], [(43, some 1)]] [?b31_0, ?b31_1, ?b31_1] Q07 hr ?t31 ?o31 ?_
  case o31 =>
   apply oc0; intro A W hx hf
   exact Q01 (a0 := a30) (r0 hf)
   apply oc0; intro A W hx hf
   exact Q0h (p1 s5 hx (q0 ?b31_0 A W 42 hf)) (ec A (.int .i64 4)) (by omega)
   apply oc0; intro A W hx hf
   exact Q03 (q0 ?b31_1 A W 43 hf)
   exact onn
  case t31 => exact inferInstance
  clear hr; intro a32 w32 x hr hd hs
  revert s4; revert s2; revert s0; refine kp3 hs rfl ?_; intro s0 s2 s4
  clear s5
  have s5 := fa ?b31_1 a32 w32 5 (hd 2 5 rfl)
  replace e_w := e_w.trans x
  have e_w30 := x
  replace m7 := m7.tr hs rfl; clear hd hs x
  replace s5 := Is.int s5 (show _ = ((p + 4 : Nat) : Int) from by omega)
  refine Q0w ?_
  refine et ?_
  refine ⟨(fun (k p : Nat) (ts : List TagL) (v : Value) (γ : Nat) => k) (kq) (p + 4) (ts ++ [⟨Q0a l p, Q0a l (p + 2)⟩]) (vT) (0), ?_, ?_⟩
  · (try dsimp only); omega
  refine ⟨kq, p + 4, ts ++ [⟨Q0a l p, Q0a l (p + 2)⟩], vT, g28, rfl, hr, m7, e_w, (by omega), (by simp; omega), (by omega), (by omega), (by exact hsr), (by omega), (by omega), (by omega), (Q00 e_w30 gT), ?_, ?_, ?_⟩
  · exact (Q00 e_w30 s2)
  · exact (Q00 e_w30 s4)
  · first | exact s5 | exact Is.int s5 (by first | omega | simp) | exact Is.bool s5 (by first | omega | simp)
 skip
 refine wp_exit ?_
 refine Q0g ?_
 refine Q0g ?_
 refine Q1b ?_
 refine es ?_
 refine sq ?_
 refine Q04 77 [[(0, none)], [(44, some 0)], [(5, none)], [(46, some 2)], [(45, some 1), (47, some 3)]] [?b33_0, ?b33_1, ?b33_2, ?b33_3, ?b33_4] Q07 hr ?t33 ?o33 ?_
 case o33 =>
  apply oc0; intro A W hx hf
  exact Q01 (a0 := a9) (r0 hf)
  apply oc0; intro A W hx hf
  exact Q0u tu22 (p2 s0 e_w hx (q0 ?b33_0 A W 44 hf))
  apply oc0; intro A W hx hf
  exact Q01 (a0 := a9) (r0 hf)
  apply oc0; intro A W hx hf
  exact Q0h (p2 s5 e_w7 hx (q0 ?b33_2 A W 46 hf)) (ec A (.int .i64 2)) (by omega)
  apply oc0; intro A W hx hf
  exact Q1e (q0 ?b33_1 A W 45 hf) (q1 ?b33_3 A W 47 hf)
  exact onn
 case t33 => exact inferInstance
 clear hr; intro a34 w34 x hr hd hs
 revert s5; revert s4; revert s2; revert s0; refine kp4 hs rfl ?_; intro s0 s2 s4 s5
 clear s17
 have s48 := fa ?b33_4 a34 w34 48 (hd 4 48 rfl)
 replace e_w := e_w.trans x
 replace e_w7 := e_w7.trans x; clear hd hs x
 refine et ?_
 refine wp_cond_split (show _ = _ from s48) (fun h2 => ?_) (fun h2 => ?_)
 ·
  have h2 : l.length < p + 2 := by simp at h2; omega
  have hrd := hsr.trans (Q4h h2)
  refine sq ?_
  refine Q05 (l := [_]) (rest := [_, _]) 77 [[]] [?b36_0] hr ?t36 ?o36 ?_
  case o36 =>
   apply oc0; intro A W hx hf
   exact Q0x Q63
   exact onn
  case t36 => exact inferInstance
  clear hr; intro a37 w37 x hr hd hs
  revert s2; refine kp1 hs rfl ?_; intro s2
  clear s0 s4 s5 s48
  have s49 := fa ?b36_0 a37 w37 49 (hd 0 49 rfl)
  replace e_w := e_w.trans x
  replace e_w7 := e_w7.trans x; clear hd hs x
  have z38 := PxS.lt (Q00 e_w7 s2)
  have l38 := (show (g2_2 = 0 ∨ w.heap.size < g2_2) ∧ True from ⟨by omega, trivial⟩)
  have l38_gT := OwnRA.lt (Q00 e_w7 gT)
  refine Q0b hr Q2f (Q00 e_w7 s2) s49 (by exact Q58 Q3r) (by exact Q3v rfl) rfl ?_; clear hr; intro a38 w38 hc hu hr hs
  have hb : Below w.heap.size w37 w38 := hc.below e_w.size l38.1
  revert s2; refine kp1 hs rfl ?_; intro s2
  clear s49
  replace s2 := hu _ _ _ (Q00 e_w7 s2)
  try simp only [List.set_cons_zero, List.set_cons_succ, lnkS] at s2
  replace gT := OwnRA.other (Q00 e_w7 gT) hc (by omega)
  replace e_w := e_w.below (Nat.le_refl _) hb
  clear e_w7
  clear hu hs hc hb
  refine Q10 hr (Q06) inferInstance ?_; clear hr; intro a39 w39 x hr hd hs
  revert s2; refine kp1 hs rfl ?_; intro s2
  have s3 := hd 3 rfl (by decide)
  replace e_w := e_w.trans x
  have e_w38 := x; clear hd hs x
  refine wpList_nil ?_
  refine et ?_
  refine wp_ret ?_
  refine Q0d ?_
  refine Q0c Try.results23 hr tu46 rfl Q2f (Q00 e_w38 s2) e_w ?_
  first | (rw [hrd]; exact ⟨_, _, rfl, ⟨_, rfl, Q4g⟩, s3⟩) | (rw [hrd]; exact ⟨_, _, rfl, ⟨_, rfl, OwnR.mono (OwnRA.own (Q00 e_w38 gT)) hB⟩, s3⟩)
 have h2 : ¬ l.length < p + 2 := by simp at h2; omega
 have hrd := hsr.trans (Q3w h2 (Qpo ht h2))
 refine wp_skip ?_
 refine es ?_
 refine sq ?_
 refine Q04 77 [[]] [?b40_0] Q07 hr ?t40 ?o40 ?_
 case o40 =>
  apply oc0; intro A W hx hf
  exact Q06
  exact onn
 case t40 => exact inferInstance
 clear hr; intro a41 w41 x hr hd hs
 revert s5; revert s4; revert s2; revert s0; refine kp4 hs rfl ?_; intro s0 s2 s4 s5
 clear s48
 have s6 := fa ?b40_0 a41 w41 6 (hd 0 6 rfl)
 replace e_w := e_w.trans x
 replace e_w7 := e_w7.trans x; clear hd hs x
 refine et ?_
 refine wp_block ?_
 refine Q11 (fun n A W => ∃ (i : Nat), n = 6 - i ∧ Fr 77 A ∧ Same Qd0 a41 A ∧ Ext w W ∧ (i ≤ 6) ∧ (OwnRA γ w.heap.size 94 tagR ts) (v) W ∧ (PxS g2_2 w.heap.size [15] [(lnkS Q43 (.slice none 0 0)).flatten] 0) (A.eval (.tmp 2)) W ∧ (PxS g4_4 w.heap.size [6, 6, 1, 1, 1] (lnkS ⟨p6 l 0 i, p6 l 6 i, ts, 0, 0⟩ v) 0) (A.eval (.tmp 4)) W ∧ (Is (.int .i64 (i : Int))) (A.eval (.tmp 6)) W) ?start42 ?_
 case start42 =>
  refine ⟨_, 0, rfl, hr, Same.rfl, e_w, (by first | assumption | omega), (Q00 e_w7 gT), ?_, ?_, ?_⟩
  · exact (Q00 e_w7 s2)
  · exact PxS.cast (Q00 e_w7 s4) (by rw [p6_0, p6_0])
  · first | exact s6 | exact Is.int s6 (by first | omega | simp) | exact Is.bool s6 (by first | omega | simp)
 intro n42 a42 w42 hI
 clear e_w
 clear e_w7
 clear hr; obtain ⟨i, hn42, hr, hs, e_w, hi, gT, u2, u4, u6⟩ := hI
 revert s5; revert s0; refine kp2 hs rfl ?_; intro s0 s5
 clear s2 s4 s6
 have s2 := u2; clear u2
 have s4 := u4; clear u4
 have s6 := u6; clear u6
 replace s5 := anyw (w2 := w42) s5
 have m42 := hs; clear hs
 refine sq ?_
 refine sq ?_
 refine Q04 77 [[(6, none)], [(50, some 0)]] [?b43_0, ?b43_1] Q07 hr ?t43 ?o43 ?_
 case o43 =>
  apply oc0; intro A W hx hf
  exact Q01 (a0 := a42) (r0 hf)
  apply oc0; intro A W hx hf
  exact Q1e (p1 s6 hx (q0 ?b43_0 A W 50 hf)) (ec A (.int .i64 6))
  exact onn
 case t43 => exact inferInstance
 clear hr; intro a44 w44 x hr hd hs
 revert s5; revert s6; revert s4; revert s2; revert s0; refine kp5 hs rfl ?_; intro s0 s2 s4 s6 s5
 have s51 := fa ?b43_1 a44 w44 51 (hd 1 51 rfl)
 replace e_w := e_w.trans x
 have e_w42 := x
 replace m42 := m42.tr hs rfl; clear hd hs x
 refine et ?_
 refine wp_cond_split (show _ = _ from s51) (fun hlt => ?_) (fun hlt => ?_)
 ·
  have hlt : i < 6 := by simp at hlt; omega
  refine wp_skip ?_
  refine es ?_
  refine wp_block ?_
  refine sq ?_
  refine Q05 (l := [_, _, _, _, _, _, _]) (rest := [_]) 77 [[(6, none)], [(0, none)], [(6, none)], [(55, some 1), (56, some 2)], [(57, some 3)], [(4, none)], [(59, some 5), (54, some 0)]] [?b46_0, ?b46_1, ?b46_2, ?b46_3, ?b46_4, ?b46_5, ?b46_6] hr ?t46 ?o46 ?_
  case o46 =>
   apply oc0; intro A W hx hf
   exact Q01 (a0 := a44) (r0 hf)
   apply oc0; intro A W hx hf
   exact Q01 (a0 := a44) (r0 hf)
   apply oc0; intro A W hx hf
   exact Q01 (a0 := a44) (r0 hf)
   apply oc0; intro A W hx hf
   exact Q0e (_) tu22 Q0i (p2 s0 e_w hx (q0 ?b46_1 A W 55 hf)) (p2 s6 e_w42 hx (q1 ?b46_2 A W 56 hf)) (by omega)
   apply oc0; intro A W hx hf
   exact Q0q tu5 rfl (q0 ?b46_3 A W 57 hf)
   apply oc0; intro A W hx hf
   exact Q02 0 tu46 (k := 0) rfl Qac rfl (o2 s4 e_w42 hx (r0 hf)) rfl
   apply oc0; intro A W hx hf
   exact Q2j (_) tu43 Q0i (q0 ?b46_5 A W 59 hf) (p2 s6 e_w42 hx (q1 ?b46_0 A W 54 hf)) rfl (by omega)
   exact onn
  case t46 => exact inferInstance
  clear hr; intro a47 w47 x hr hd hs
  revert s5; revert s6; revert s4; revert s2; revert s0; refine kp5 hs rfl ?_; intro s0 s2 s4 s6 s5
  clear s51
  have s58 := fa ?b46_4 a47 w47 58 (hd 4 58 rfl)
  have s60 := fa ?b46_6 a47 w47 60 (hd 6 60 rfl)
  replace e_w := e_w.trans x
  replace e_w42 := e_w42.trans x
  replace m42 := m42.tr hs rfl; clear hd hs x
  have z48 := PxE.lt s60
  have l48 := (show (g4_4 = 0 ∨ w.heap.size < g4_4) ∧ True from ⟨by omega, trivial⟩)
  have l48_2 := PxS.lt (Q00 e_w42 s2)
  have l48_gT := OwnRA.lt (Q00 e_w42 gT)
  refine Q7i hr Q0i s60 rfl s58 ?_; clear hr; intro a48 w48 hc hu hr hs
  have hb : Below w.heap.size w47 w48 := hc.below e_w.size l48.1
  revert s5; revert s6; revert s4; revert s2; revert s0; refine kp5 hs rfl ?_; intro s0 s2 s4 s6 s5
  clear s58 s60
  replace s2 := PxS.other (Q00 e_w42 s2) hc (by omega)
  replace s4 := hu _ _ _ (Q00 e_w42 s4)
  try simp only [List.set_cons_zero, List.set_cons_succ, lnkS] at s4
  replace gT := OwnRA.other (Q00 e_w42 gT) hc (by omega)
  replace e_w := e_w.below (Nat.le_refl _) hb
  clear e_w42
  replace s6 := anyw (w2 := w48) s6
  replace s5 := anyw (w2 := w48) s5
  replace m42 := m42.tr hs rfl
  clear hu hs hc hb
  refine wpList_nil ?_
  replace s4 := PxS.cast s4 (show _ = lnkS ⟨p6 l 0 (i + 1), p6 l 6 i, ts, 0, 0⟩ v from by rw [← Qiq (l := l) (q := 0) hlt (by omega)]; simp [lnkS])
  refine et ?_
  refine Q05 (l := [_, _, _, _, _, _, _, _]) (rest := [_]) 77 [[(6, none)], [(0, none)], [(6, none)], [(63, some 2)], [(62, some 1), (64, some 3)], [(65, some 4)], [(4, none)], [(67, some 6), (61, some 0)]] [?b49_0, ?b49_1, ?b49_2, ?b49_3, ?b49_4, ?b49_5, ?b49_6, ?b49_7] hr ?t49 ?o49 ?_
  case o49 =>
   apply oc0; intro A W hx hf
   exact Q01 (a0 := a48) (r0 hf)
   apply oc0; intro A W hx hf
   exact Q01 (a0 := a48) (r0 hf)
   apply oc0; intro A W hx hf
   exact Q01 (a0 := a48) (r0 hf)
   apply oc0; intro A W hx hf
   exact Q0h (ec A (.int .i64 6)) (p1 s6 hx (q0 ?b49_2 A W 63 hf)) (by omega)
   apply oc0; intro A W hx hf
   exact Q0e (6 + i) tu22 Q0i (p2 s0 e_w hx (q0 ?b49_1 A W 62 hf)) (Is.int (q1 ?b49_3 A W 64 hf) (by omega)) (by omega)
   apply oc0; intro A W hx hf
   exact Q0q tu5 rfl (q0 ?b49_4 A W 65 hf)
   apply oc0; intro A W hx hf
   exact Q02 1 tu46 (k := 1) rfl Qac rfl (o1 s4 hx (r0 hf)) rfl
   apply oc0; intro A W hx hf
   exact Q2j (_) tu43 Q0i (q0 ?b49_6 A W 67 hf) (p1 s6 hx (q1 ?b49_0 A W 61 hf)) rfl (by omega)
   exact onn
  case t49 => exact inferInstance
  clear hr; intro a50 w50 x hr hd hs
  revert s4; revert s5; revert s6; revert s2; revert s0; refine kp5 hs rfl ?_; intro s0 s2 s6 s5 s4
  have s66 := fa ?b49_5 a50 w50 66 (hd 5 66 rfl)
  have s68 := fa ?b49_7 a50 w50 68 (hd 7 68 rfl)
  replace e_w := e_w.trans x
  have e_w48 := x
  replace m42 := m42.tr hs rfl; clear hd hs x
  have z51 := PxE.lt s68
  have l51 := (show (g4_4 = 0 ∨ w.heap.size < g4_4) ∧ True from ⟨by omega, trivial⟩)
  have l51_2 := PxS.lt (Q00 e_w48 s2)
  have l51_gT := OwnRA.lt (Q00 e_w48 gT)
  refine Q7i hr Q0i s68 rfl s66 ?_; clear hr; intro a51 w51 hc hu hr hs
  have hb : Below w.heap.size w50 w51 := hc.below e_w.size l51.1
  revert s4; revert s5; revert s6; revert s2; revert s0; refine kp5 hs rfl ?_; intro s0 s2 s6 s5 s4
  clear s66 s68
  replace s2 := PxS.other (Q00 e_w48 s2) hc (by omega)
  replace s4 := hu _ _ _ (Q00 e_w48 s4)
  try simp only [List.set_cons_zero, List.set_cons_succ, lnkS] at s4
  replace gT := OwnRA.other (Q00 e_w48 gT) hc (by omega)
  replace e_w := e_w.below (Nat.le_refl _) hb
  clear e_w48
  replace s6 := anyw (w2 := w51) s6
  replace s5 := anyw (w2 := w51) s5
  replace m42 := m42.tr hs rfl
  clear hu hs hc hb
  refine wpList_nil ?_
  replace s4 := PxS.cast s4 (show _ = lnkS ⟨p6 l 0 (i + 1), p6 l 6 (i + 1), ts, 0, 0⟩ v from by rw [← Qiq (l := l) (q := 6) hlt (by omega)]; rfl)
  refine Q0w ?_
  refine et ?_
  refine Q04 77 [[(6, none)], [(52, some 0)], [(53, some 1)]] [?b52_0, ?b52_1, ?b52_1] Q07 hr ?t52 ?o52 ?_
  case o52 =>
   apply oc0; intro A W hx hf
   exact Q01 (a0 := a51) (r0 hf)
   apply oc0; intro A W hx hf
   exact Q0h (p1 s6 hx (q0 ?b52_0 A W 52 hf)) (ec A (.int .i64 1)) (by omega)
   apply oc0; intro A W hx hf
   exact Q03 (q0 ?b52_1 A W 53 hf)
   exact onn
  case t52 => exact inferInstance
  clear hr; intro a53 w53 x hr hd hs
  revert s4; revert s5; revert s2; revert s0; refine kp4 hs rfl ?_; intro s0 s2 s5 s4
  clear s6
  have s6 := fa ?b52_1 a53 w53 6 (hd 2 6 rfl)
  replace e_w := e_w.trans x
  have e_w51 := x
  replace m42 := m42.tr hs rfl; clear hd hs x
  refine et ?_
  refine ⟨(fun (i : Nat) => 6 - i) (i + 1), ?_, ?_⟩
  · (try dsimp only); omega
  refine ⟨i + 1, rfl, hr, m42, e_w, (by first | assumption | omega), (Q00 e_w51 gT), ?_, ?_, ?_⟩
  · exact (Q00 e_w51 s2)
  · exact (Q00 e_w51 s4)
  · first | exact s6 | exact Is.int s6 (by first | omega | simp) | exact Is.bool s6 (by first | omega | simp)
 have hlt : i = 6 := by simp at hlt; omega
 subst hlt
 refine wp_exit ?_
 refine Q0g ?_
 refine Q0g ?_
 refine Q1b ?_
 refine es ?_
 refine Q05 (l := [_, _, _, _]) (rest := [_]) 77 [[(0, none)], [(5, none)], [(69, some 0), (70, some 1)], [(4, none)]] [?b54_0, ?b54_1, ?b54_2, ?b54_3] hr ?t54 ?o54 ?_
 case o54 =>
  apply oc0; intro A W hx hf
  exact Q01 (a0 := a44) (r0 hf)
  apply oc0; intro A W hx hf
  exact Q01 (a0 := a44) (r0 hf)
  apply oc0; intro A W hx hf
  exact Q0t Qff (Qbf (p2 s0 e_w hx (q0 ?b54_0 A W 69 hf)) (p2 s5 e_w42 hx (q1 ?b54_1 A W 70 hf)) (by omega) (by show (p : Int).toNat + 2 ≤ _; omega))
  apply oc0; intro A W hx hf
  exact Q02 3 tu46 (k := 3) rfl Q0k rfl (o2 s4 e_w42 hx (r0 hf)) rfl
  exact onn
 case t54 => exact inferInstance
 clear hr; intro a55 w55 x hr hd hs
 revert s5; revert s4; revert s2; refine kp3 hs rfl ?_; intro s2 s4 s5
 clear s0 s6 s51
 have s71 := fa ?b54_2 a55 w55 71 (hd 2 71 rfl)
 have s72 := fa ?b54_3 a55 w55 72 (hd 3 72 rfl)
 replace e_w := e_w.trans x
 replace e_w42 := e_w42.trans x; clear hd hs x
 have z56 := PxS.lt s72
 have l56 := (show (g4_4 = 0 ∨ w.heap.size < g4_4) ∧ True from ⟨by omega, trivial⟩)
 have l56_2 := PxS.lt (Q00 e_w42 s2)
 have l56_gT := OwnRA.lt (Q00 e_w42 gT)
 refine Q1g hr Q0k s72 s71 (by rfl) rfl ?_; clear hr; intro a56 w56 hc hu hr hs
 have hb : Below w.heap.size w55 w56 := hc.below e_w.size l56.1
 revert s5; revert s4; revert s2; refine kp3 hs rfl ?_; intro s2 s4 s5
 clear s71 s72
 replace s2 := PxS.other (Q00 e_w42 s2) hc (by omega)
 replace s4 := hu _ _ _ (Q00 e_w42 s4)
 try simp only [List.set_cons_zero, List.set_cons_succ, lnkS] at s4
 replace gT := OwnRA.other (Q00 e_w42 gT) hc (by omega)
 replace e_w := e_w.below (Nat.le_refl _) hb
 clear e_w42
 replace s5 := anyw (w2 := w56) s5
 clear hu hs hc hb
 refine wpList_nil ?_
 refine es ?_
 refine Q05 (l := [_, _, _]) (rest := [_]) 77 [[(5, none)], [(73, some 0)], [(4, none)]] [?b57_0, ?b57_1, ?b57_2] hr ?t57 ?o57 ?_
 case o57 =>
  apply oc0; intro A W hx hf
  exact Q01 (a0 := a56) (r0 hf)
  apply oc0; intro A W hx hf
  exact Q0h (p1 s5 hx (q0 ?b57_0 A W 73 hf)) (ec A (.int .i64 2)) (by omega)
  apply oc0; intro A W hx hf
  exact Q02 4 tu46 (k := 4) rfl Q0k rfl (o1 s4 hx (r0 hf)) rfl
  exact onn
 case t57 => exact inferInstance
 clear hr; intro a58 w58 x hr hd hs
 revert s4; revert s2; refine kp2 hs rfl ?_; intro s2 s4
 clear s5
 have s74 := fa ?b57_1 a58 w58 74 (hd 1 74 rfl)
 have s75 := fa ?b57_2 a58 w58 75 (hd 2 75 rfl)
 replace e_w := e_w.trans x
 have e_w56 := x; clear hd hs x
 have z59 := PxS.lt s75
 have l59 := (show (g4_4 = 0 ∨ w.heap.size < g4_4) ∧ True from ⟨by omega, trivial⟩)
 have l59_2 := PxS.lt (Q00 e_w56 s2)
 have l59_gT := OwnRA.lt (Q00 e_w56 gT)
 refine Q1g hr Q0k s75 s74 (by rfl) rfl ?_; clear hr; intro a59 w59 hc hu hr hs
 have hb : Below w.heap.size w58 w59 := hc.below e_w.size l59.1
 revert s4; revert s2; refine kp2 hs rfl ?_; intro s2 s4
 clear s74 s75
 replace s2 := PxS.other (Q00 e_w56 s2) hc (by omega)
 replace s4 := hu _ _ _ (Q00 e_w56 s4)
 try simp only [List.set_cons_zero, List.set_cons_succ, lnkS] at s4
 replace gT := OwnRA.other (Q00 e_w56 gT) hc (by omega)
 replace e_w := e_w.below (Nat.le_refl _) hb
 clear e_w56
 clear hu hs hc hb
 refine wpList_nil ?_
 replace s4 := PxS.cast s4 (show _ = lnkS ⟨(l.drop 0).take 6, (l.drop 6).take 6, ts, Q0a l p, (p : Int) + 2⟩ v from by rw [← Qlu, ← Qlu l 6]; rfl)
 refine es ?_
 refine Q05 (l := [_]) (rest := [_, _]) 77 [[(4, none)]] [?b60_0] hr ?t60 ?o60 ?_
 case o60 =>
  apply oc0; intro A W hx hf
  exact Q0j 5 tu46 rfl Q2f (o1 s4 hx (r0 hf)) rfl
  exact onn
 case t60 => exact inferInstance
 clear hr; intro a61 w61 x hr hd hs
 revert s2; refine kp1 hs rfl ?_; intro s2
 clear s4
 have s76 := fa ?b60_0 a61 w61 76 (hd 0 76 rfl)
 replace e_w := e_w.trans x
 have e_w59 := x; clear hd hs x
 have z62 := PxS.lt (Q00 e_w59 s2)
 have l62 := (show (g2_2 = 0 ∨ w.heap.size < g2_2) ∧ True from ⟨by omega, trivial⟩)
 have l62_gT := OwnRA.lt (Q00 e_w59 gT)
 refine Q0b hr Q2f (Q00 e_w59 s2) (Is.conv s76 Qip) (by exact Q58 ⟨by simp; omega, by simp; omega⟩) (by exact Q3v (Q9d (OwnRA.rw gT))) rfl ?_; clear hr; intro a62 w62 hc hu hr hs
 have hb : Below w.heap.size w61 w62 := hc.below e_w.size l62.1
 revert s2; refine kp1 hs rfl ?_; intro s2
 clear s76
 replace s2 := hu _ _ _ (Q00 e_w59 s2)
 try simp only [List.set_cons_zero, List.set_cons_succ, lnkS] at s2
 replace gT := OwnRA.other (Q00 e_w59 gT) hc (by omega)
 replace e_w := e_w.below (Nat.le_refl _) hb
 clear e_w59
 clear hu hs hc hb
 refine Q10 hr (Q06) inferInstance ?_; clear hr; intro a63 w63 x hr hd hs
 revert s2; refine kp1 hs rfl ?_; intro s2
 have s3 := hd 3 rfl (by decide)
 replace e_w := e_w.trans x
 have e_w62 := x; clear hd hs x
 refine wpList_nil ?_
 refine et ?_
 refine wp_ret ?_
 refine Q0c Try.results23 hr tu46 rfl Q2f (Q00 e_w62 s2) e_w ?_
 first | (rw [hrd]; exact ⟨_, _, rfl, ⟨_, rfl, Q4g⟩, s3⟩) | (rw [hrd]; exact ⟨_, _, rfl, ⟨_, rfl, OwnR.mono (OwnRA.own (Q00 e_w62 gT)) hB⟩, s3⟩)

def Qec : List Tmp := [3, 4, 8, 9, 10, 11, 12, 13, 14, 15, 16, 17, 18]
def Qed : List Tmp := [3, 5, 19, 20, 21, 22, 23, 24, 25, 26, 27, 28, 29]
def Qee : List Tmp := [3, 6, 7, 30, 31, 32, 33, 34, 35, 36, 37, 38, 39, 40, 41, 42, 43, 44, 45, 46, 47, 48, 49, 50, 51, 52, 53, 54, 55, 56, 57, 58, 59, 60]
theorem Qn1 {x0 : Value} {w : World} {L : LinkL} {B : Nat} (h0 : (LinkV L) x0 w) (hL : Q5f L) (hr1 : Q37 L = true) (hB : B ≤ w.heap.size) :
    Calls Try.prog 33 #[x0] w (Ret (OwnB B 5 (Q6c L)) w) := by
 obtain ⟨v, eh0, hT, hvh0⟩ := h0
 replace h0 : Is (LnkA L v) x0 w := eh0
 have hd6 := hL.1
 have hs6 := hL.2
 obtain ⟨ht2, hty, htb, hall⟩ := Q8f hr1
 refine enter Try.func33 rfl Try.ntmps33 (k := 1) rfl (by decide) (fun a0 hr hargs => ?_)
 have s0 := sarg h0 (hargs 0 (by decide))
 clear hargs
 refine sq ?_
 refine Q04 72 [[(0, none)], []] [?b1_0, ?b1_1] Q07 hr ?t1 ?o1 ?_
 case o1 =>
  apply oc0; intro A W hx hf
  exact Q2i (lnkS L v) [6, 6, 1, 1, 1] (o1 s0 hx (r0 hf)) (by exact Q6d hL) hx.size
  apply oc0; intro A W hx hf
  exact Q1j (OwnBA 0 w.heap.size 5 []) (fun _ => Q24)
  exact onn
 case t1 => exact inferInstance
 clear hr; intro a2 w2 x hr hd hs
 clear s0
 have s1 := fa ?b1_0 a2 w2 1 (hd 0 1 rfl)
 obtain ⟨g2_1, q2_1⟩ := PxN.at s1; clear s1; have n2_1 := PxS.lt q2_1
 have s1 := q2_1; clear q2_1
 have e_w := x; clear hd hs x
 refine es ?_
 refine Q04 72 [[]] [?b3_0] Q07 hr ?t3 ?o3 ?_
 case o3 =>
  apply oc0; intro A W hx hf
  exact Q1j (OwnBA 0 w.heap.size 5 []) (fun _ => Q24)
  exact onn
 case t3 => exact inferInstance
 clear hr; intro a4 w4 x hr hd hs
 revert s1; refine kp1 hs rfl ?_; intro s1
 have s3 := fa ?b3_0 a4 w4 3 (hd 0 3 rfl)
 replace e_w := e_w.trans x
 have e_w2 := x; clear hd hs x
 refine es ?_
 refine sq ?_
 refine Q04 72 [[]] [?b5_0] Q07 hr ?t5 ?o5 ?_
 case o5 =>
  apply oc0; intro A W hx hf
  exact Q06
  exact onn
 case t5 => exact inferInstance
 clear hr; intro a6 w6 x hr hd hs
 revert s3; revert s1; refine kp2 hs rfl ?_; intro s1 s3
 have s4 := fa ?b5_0 a6 w6 4 (hd 0 4 rfl)
 replace e_w := e_w.trans x
 replace e_w2 := e_w2.trans x
 have e_w4 := x; clear hd hs x
 refine et ?_
 refine wp_block ?_
 refine Q11 (fun n A W => ∃ (i β : Nat), n = 6 - i ∧ Fr 72 A ∧ Same Qec a6 A ∧ Ext w W ∧ (i ≤ 6) ∧ (g2_1 ≠ β) ∧ (PxS g2_1 w.heap.size [6, 6, 1, 1, 1] (lnkS L v) 0) (A.eval (.tmp 1)) W ∧ (OwnBA β w.heap.size 5 (L.dst.take i)) (A.eval (.tmp 3)) W ∧ (Is (.int .i64 (i : Int))) (A.eval (.tmp 4)) W) ?start7 ?_
 case start7 =>
  refine ⟨_, 0, 0, rfl, hr, Same.rfl, e_w, (by first | assumption | omega), (by first | assumption | omega), ?_, ?_, ?_⟩
  · exact (Q00 e_w2 s1)
  · exact OwnBA.cast (Q00 e_w4 s3) (by simp)
  · first | exact s4 | exact Is.int s4 (by first | omega | simp) | exact Is.bool s4 (by first | omega | simp)
 intro n7 a7 w7 hI
 clear e_w
 clear e_w2
 clear e_w4
 clear hr; obtain ⟨i, β, hn7, hr, hs, e_w, hi, ne1, u1, u3, u4⟩ := hI
 clear s1 s3 s4
 have s1 := u1; clear u1
 have s3 := u3; clear u3
 have s4 := u4; clear u4
 have m7 := hs; clear hs
 refine sq ?_
 refine sq ?_
 refine Q04 72 [[(4, none)], [(8, some 0)]] [?b8_0, ?b8_1] Q07 hr ?t8 ?o8 ?_
 case o8 =>
  apply oc0; intro A W hx hf
  exact Q01 (a0 := a7) (r0 hf)
  apply oc0; intro A W hx hf
  exact Q1e (p1 s4 hx (q0 ?b8_0 A W 8 hf)) (ec A (.int .i64 6))
  exact onn
 case t8 => exact inferInstance
 clear hr; intro a9 w9 x hr hd hs
 revert s4; revert s3; revert s1; refine kp3 hs rfl ?_; intro s1 s3 s4
 have s9 := fa ?b8_1 a9 w9 9 (hd 1 9 rfl)
 replace e_w := e_w.trans x
 have e_w7 := x
 replace m7 := m7.tr hs rfl; clear hd hs x
 refine et ?_
 refine wp_cond_split (show _ = _ from s9) (fun hlt => ?_) (fun hlt => ?_)
 ·
  have hlt : i < 6 := by simp at hlt; omega
  refine wp_skip ?_
  refine es ?_
  refine wp_block ?_
  refine Q05 (l := [_, _, _, _, _, _]) (rest := [_, _]) 72 [[(3, none)], [(4, none)], [(1, none)], [(14, some 2), (13, some 1)], [(15, some 3)], [(16, some 4)]] [?b11_0, ?b11_1, ?b11_2, ?b11_3, ?b11_4, ?b11_5] hr ?t11 ?o11 ?_
  case o11 =>
   apply oc0; intro A W hx hf
   exact Q01 (a0 := a9) (r0 hf)
   apply oc0; intro A W hx hf
   exact Q01 (a0 := a9) (r0 hf)
   apply oc0; intro A W hx hf
   exact Q02 0 tu46 (k := 0) rfl Qac rfl (o2 s1 e_w7 hx (r0 hf)) rfl
   apply oc0; intro A W hx hf
   exact Q2j (_) tu43 Q0i (q0 ?b11_2 A W 14 hf) (p2 s4 e_w7 hx (q1 ?b11_1 A W 13 hf)) rfl (by omega)
   apply oc0; intro A W hx hf
   exact Q4e tu5 rfl (q0 ?b11_3 A W 15 hf) rfl (by omega)
   apply oc0; intro A W hx hf
   exact Q1m [(.tmp 16)] [_] tu22 Q0i Q2v rfl rfl (by decide) (PartsOk.cons (q0 ?b11_4 A W 16 hf) (PartsOk.nil))
   exact onn
  case t11 => exact inferInstance
  clear hr; intro a12 w12 x hr hd hs
  have u12 := mv s3 (fa ?b11_0 a12 w12 12 (hd 0 12 rfl))
  revert s4; revert s3; revert s1; refine kp3 hs rfl ?_; intro s1 s3 s4
  clear s9
  have s12 := u12; clear u12
  have s17 := fa ?b11_5 a12 w12 17 (hd 5 17 rfl)
  replace e_w := e_w.trans x
  replace e_w7 := e_w7.trans x
  replace m7 := m7.tr hs rfl; clear hd hs x
  have l13 := OwnBA.lt (Q00 e_w7 s12)
  have l13_1 := PxS.lt (Q00 e_w7 s1)
  refine Q0s hr (by decide) tu22 Q2q rfl (Q00 e_w7 s12) s17 e_w.size (by first | (simp; omega) | (simp only [List.length_append, List.length_take, List.length_cons, List.length_nil]; omega) | (have hfl2 := Q6e ht2 L.tags.length; simp only [List.length_append, List.length_take, List.length_cons, List.length_nil]; omega)) ?_; clear hr; intro g13 a13 w13 hg13 hc hr hd hs
  have hb := hc.below e_w.size l13.1
  revert s4; revert s1; refine kp2 hs rfl ?_; intro s1 s4
  clear s3 s12 s17
  replace s1 := PxS.other (Q00 e_w7 s1) hc (by omega)
  have s18 := hd
  replace e_w := e_w.below (Nat.le_refl _) hb
  clear e_w7
  replace s4 := anyw (w2 := w13) s4
  replace m7 := m7.tr hs rfl
  clear hd hs hb hc
  refine Q10 hr (Q03 s18) inferInstance ?_; clear hr; intro a14 w14 x hr hd hs
  revert s4; revert s1; refine kp2 hs rfl ?_; intro s1 s4
  clear s18
  have s3 := hd 3 rfl (by decide)
  replace e_w := e_w.trans x
  have e_w13 := x
  replace m7 := m7.tr hs rfl; clear hd hs x
  refine wpList_nil ?_
  refine Q0w ?_
  refine et ?_
  refine Q04 72 [[(4, none)], [(10, some 0)], [(11, some 1)]] [?b15_0, ?b15_1, ?b15_1] Q07 hr ?t15 ?o15 ?_
  case o15 =>
   apply oc0; intro A W hx hf
   exact Q01 (a0 := a14) (r0 hf)
   apply oc0; intro A W hx hf
   exact Q0h (p2 s4 e_w13 hx (q0 ?b15_0 A W 10 hf)) (ec A (.int .i64 1)) (by omega)
   apply oc0; intro A W hx hf
   exact Q03 (q0 ?b15_1 A W 11 hf)
   exact onn
  case t15 => exact inferInstance
  clear hr; intro a16 w16 x hr hd hs
  revert s3; revert s1; refine kp2 hs rfl ?_; intro s1 s3
  clear s4
  have s4 := fa ?b15_1 a16 w16 4 (hd 2 4 rfl)
  replace e_w := e_w.trans x
  replace e_w13 := e_w13.trans x
  have e_w14 := x
  replace m7 := m7.tr hs rfl; clear hd hs x
  refine et ?_
  refine ⟨(fun (i β : Nat) => 6 - i) (i + 1) (0), ?_, ?_⟩
  · (try dsimp only); omega
  refine ⟨i + 1, g13, rfl, hr, m7, e_w, (by first | assumption | omega), (by first | assumption | omega), ?_, ?_, ?_⟩
  · exact (Q00 e_w13 s1)
  · exact OwnBA.cast (Q00 e_w14 s3) (by rw [Q3i (l := L.dst) (by omega)])
  · first | exact s4 | exact Is.int s4 (by first | omega | simp) | exact Is.bool s4 (by first | omega | simp)
 have hlt : i = 6 := by simp at hlt; omega
 subst hlt
 refine wp_exit ?_
 refine Q0g ?_
 refine Q0g ?_
 refine Q1b ?_
 refine es ?_
 refine sq ?_
 refine Q04 72 [[]] [?b17_0] Q07 hr ?t17 ?o17 ?_
 case o17 =>
  apply oc0; intro A W hx hf
  exact Q06
  exact onn
 case t17 => exact inferInstance
 clear hr; intro a18 w18 x hr hd hs
 revert s3; revert s1; refine kp2 hs rfl ?_; intro s1 s3
 clear s4 s9
 have s5 := fa ?b17_0 a18 w18 5 (hd 0 5 rfl)
 replace e_w := e_w.trans x
 replace e_w7 := e_w7.trans x; clear hd hs x
 refine et ?_
 refine wp_block ?_
 refine Q11 (fun n A W => ∃ (j β : Nat), n = 6 - j ∧ Fr 72 A ∧ Same Qed a18 A ∧ Ext w W ∧ (j ≤ 6) ∧ (g2_1 ≠ β) ∧ (PxS g2_1 w.heap.size [6, 6, 1, 1, 1] (lnkS L v) 0) (A.eval (.tmp 1)) W ∧ (OwnBA β w.heap.size 5 (L.dst.take 6 ++ L.src.take j)) (A.eval (.tmp 3)) W ∧ (Is (.int .i64 (j : Int))) (A.eval (.tmp 5)) W) ?start19 ?_
 case start19 =>
  refine ⟨_, 0, β, rfl, hr, Same.rfl, e_w, (by first | assumption | omega), (by first | assumption | omega), ?_, ?_, ?_⟩
  · exact (Q00 e_w7 s1)
  · exact OwnBA.cast (Q00 e_w7 s3) (by simp)
  · first | exact s5 | exact Is.int s5 (by first | omega | simp) | exact Is.bool s5 (by first | omega | simp)
 intro n19 a19 w19 hI
 clear e_w
 clear e_w7
 clear hr; obtain ⟨j, β, hn19, hr, hs, e_w, hj, ne2, u1, u3, u5⟩ := hI
 clear s1 s3 s5
 have s1 := u1; clear u1
 have s3 := u3; clear u3
 have s5 := u5; clear u5
 have m19 := hs; clear hs
 refine sq ?_
 refine sq ?_
 refine Q04 72 [[(5, none)], [(19, some 0)]] [?b20_0, ?b20_1] Q07 hr ?t20 ?o20 ?_
 case o20 =>
  apply oc0; intro A W hx hf
  exact Q01 (a0 := a19) (r0 hf)
  apply oc0; intro A W hx hf
  exact Q1e (p1 s5 hx (q0 ?b20_0 A W 19 hf)) (ec A (.int .i64 6))
  exact onn
 case t20 => exact inferInstance
 clear hr; intro a21 w21 x hr hd hs
 revert s5; revert s3; revert s1; refine kp3 hs rfl ?_; intro s1 s3 s5
 have s20 := fa ?b20_1 a21 w21 20 (hd 1 20 rfl)
 replace e_w := e_w.trans x
 have e_w19 := x
 replace m19 := m19.tr hs rfl; clear hd hs x
 refine et ?_
 refine wp_cond_split (show _ = _ from s20) (fun hlt => ?_) (fun hlt => ?_)
 ·
  have hlt : j < 6 := by simp at hlt; omega
  refine wp_skip ?_
  refine es ?_
  refine wp_block ?_
  refine Q05 (l := [_, _, _, _, _, _]) (rest := [_, _]) 72 [[(3, none)], [(5, none)], [(1, none)], [(25, some 2), (24, some 1)], [(26, some 3)], [(27, some 4)]] [?b23_0, ?b23_1, ?b23_2, ?b23_3, ?b23_4, ?b23_5] hr ?t23 ?o23 ?_
  case o23 =>
   apply oc0; intro A W hx hf
   exact Q01 (a0 := a21) (r0 hf)
   apply oc0; intro A W hx hf
   exact Q01 (a0 := a21) (r0 hf)
   apply oc0; intro A W hx hf
   exact Q02 1 tu46 (k := 1) rfl Qac rfl (o2 s1 e_w19 hx (r0 hf)) rfl
   apply oc0; intro A W hx hf
   exact Q2j (_) tu43 Q0i (q0 ?b23_2 A W 25 hf) (p2 s5 e_w19 hx (q1 ?b23_1 A W 24 hf)) rfl (by omega)
   apply oc0; intro A W hx hf
   exact Q4e tu5 rfl (q0 ?b23_3 A W 26 hf) rfl (by omega)
   apply oc0; intro A W hx hf
   exact Q1m [(.tmp 27)] [_] tu22 Q0i Q2v rfl rfl (by decide) (PartsOk.cons (q0 ?b23_4 A W 27 hf) (PartsOk.nil))
   exact onn
  case t23 => exact inferInstance
  clear hr; intro a24 w24 x hr hd hs
  have u23 := mv s3 (fa ?b23_0 a24 w24 23 (hd 0 23 rfl))
  revert s5; revert s3; revert s1; refine kp3 hs rfl ?_; intro s1 s3 s5
  clear s20
  have s23 := u23; clear u23
  have s28 := fa ?b23_5 a24 w24 28 (hd 5 28 rfl)
  replace e_w := e_w.trans x
  replace e_w19 := e_w19.trans x
  replace m19 := m19.tr hs rfl; clear hd hs x
  have l25 := OwnBA.lt (Q00 e_w19 s23)
  have l25_1 := PxS.lt (Q00 e_w19 s1)
  refine Q0s hr (by decide) tu22 Q2q rfl (Q00 e_w19 s23) s28 e_w.size (by first | (simp; omega) | (simp only [List.length_append, List.length_take, List.length_cons, List.length_nil]; omega) | (have hfl2 := Q6e ht2 L.tags.length; simp only [List.length_append, List.length_take, List.length_cons, List.length_nil]; omega)) ?_; clear hr; intro g25 a25 w25 hg25 hc hr hd hs
  have hb := hc.below e_w.size l25.1
  revert s5; revert s1; refine kp2 hs rfl ?_; intro s1 s5
  clear s3 s23 s28
  replace s1 := PxS.other (Q00 e_w19 s1) hc (by omega)
  have s29 := hd
  replace e_w := e_w.below (Nat.le_refl _) hb
  clear e_w19
  replace s5 := anyw (w2 := w25) s5
  replace m19 := m19.tr hs rfl
  clear hd hs hb hc
  refine Q10 hr (Q03 s29) inferInstance ?_; clear hr; intro a26 w26 x hr hd hs
  revert s5; revert s1; refine kp2 hs rfl ?_; intro s1 s5
  clear s29
  have s3 := hd 3 rfl (by decide)
  replace e_w := e_w.trans x
  have e_w25 := x
  replace m19 := m19.tr hs rfl; clear hd hs x
  refine wpList_nil ?_
  refine Q0w ?_
  refine et ?_
  refine Q04 72 [[(5, none)], [(21, some 0)], [(22, some 1)]] [?b27_0, ?b27_1, ?b27_1] Q07 hr ?t27 ?o27 ?_
  case o27 =>
   apply oc0; intro A W hx hf
   exact Q01 (a0 := a26) (r0 hf)
   apply oc0; intro A W hx hf
   exact Q0h (p2 s5 e_w25 hx (q0 ?b27_0 A W 21 hf)) (ec A (.int .i64 1)) (by omega)
   apply oc0; intro A W hx hf
   exact Q03 (q0 ?b27_1 A W 22 hf)
   exact onn
  case t27 => exact inferInstance
  clear hr; intro a28 w28 x hr hd hs
  revert s3; revert s1; refine kp2 hs rfl ?_; intro s1 s3
  clear s5
  have s5 := fa ?b27_1 a28 w28 5 (hd 2 5 rfl)
  replace e_w := e_w.trans x
  replace e_w25 := e_w25.trans x
  have e_w26 := x
  replace m19 := m19.tr hs rfl; clear hd hs x
  refine et ?_
  refine ⟨(fun (j β : Nat) => 6 - j) (j + 1) (0), ?_, ?_⟩
  · (try dsimp only); omega
  refine ⟨j + 1, g25, rfl, hr, m19, e_w, (by first | assumption | omega), (by first | assumption | omega), ?_, ?_, ?_⟩
  · exact (Q00 e_w25 s1)
  · exact OwnBA.cast (Q00 e_w26 s3) (by rw [Q3i (l := L.src) (by omega), ← List.append_assoc])
  · first | exact s5 | exact Is.int s5 (by first | omega | simp) | exact Is.bool s5 (by first | omega | simp)
 have hlt : j = 6 := by simp at hlt; omega
 subst hlt
 refine wp_exit ?_
 refine Q0g ?_
 refine Q0g ?_
 refine Q1b ?_
 refine es ?_
 refine sq ?_
 refine Q04 72 [[]] [?b29_0] Q07 hr ?t29 ?o29 ?_
 case o29 =>
  apply oc0; intro A W hx hf
  exact Q06
  exact onn
 case t29 => exact inferInstance
 clear hr; intro a30 w30 x hr hd hs
 revert s3; revert s1; refine kp2 hs rfl ?_; intro s1 s3
 clear s5 s20
 have s6 := fa ?b29_0 a30 w30 6 (hd 0 6 rfl)
 replace e_w := e_w.trans x
 replace e_w19 := e_w19.trans x; clear hd hs x
 refine et ?_
 refine wp_block ?_
 refine Q11 (fun n A W => ∃ (q β : Nat), n = L.tags.length - q ∧ Fr 72 A ∧ Same Qee a30 A ∧ Ext w W ∧ (q ≤ L.tags.length) ∧ (g2_1 ≠ β) ∧ (PxS g2_1 w.heap.size [6, 6, 1, 1, 1] (lnkS L v) 0) (A.eval (.tmp 1)) W ∧ (OwnBA β w.heap.size 5 (L.dst.take 6 ++ L.src.take 6 ++ (L.tags.take q).flatMap Q7n)) (A.eval (.tmp 3)) W ∧ (Is (.int .i64 (q : Int))) (A.eval (.tmp 6)) W) ?start31 ?_
 case start31 =>
  refine ⟨_, 0, β, rfl, hr, Same.rfl, e_w, (by first | assumption | omega), (by first | assumption | omega), ?_, ?_, ?_⟩
  · exact (Q00 e_w19 s1)
  · exact OwnBA.cast (Q00 e_w19 s3) (by simp)
  · first | exact s6 | exact Is.int s6 (by first | omega | simp) | exact Is.bool s6 (by first | omega | simp)
 intro n31 a31 w31 hI
 clear e_w
 clear e_w19
 clear hr; obtain ⟨q, β, hn31, hr, hs, e_w, hq, ne3, u1, u3, u6⟩ := hI
 clear s1 s3 s6
 have s1 := u1; clear u1
 have s3 := u3; clear u3
 have s6 := u6; clear u6
 have m31 := hs; clear hs
 refine sq ?_
 refine sq ?_
 refine Q04 72 [[(6, none)], [(1, none)], [(31, some 1)], [(32, some 2)], [(30, some 0), (33, some 3)]] [?b32_0, ?b32_1, ?b32_2, ?b32_3, ?b32_4] Q07 hr ?t32 ?o32 ?_
 case o32 =>
  apply oc0; intro A W hx hf
  exact Q01 (a0 := a31) (r0 hf)
  apply oc0; intro A W hx hf
  exact Q02 2 tu46 (k := 2) rfl Q6r rfl (o1 s1 hx (r0 hf)) rfl
  apply oc0; intro A W hx hf
  exact Qge (Q09 tu44 rfl (q0 ?b32_1 A W 31 hf) rfl) (Q00 (e_w.trans hx) hT)
  apply oc0; intro A W hx hf
  exact Q9b tu44 (q0 ?b32_2 A W 32 hf)
  apply oc0; intro A W hx hf
  exact Q1e (p1 s6 hx (q0 ?b32_0 A W 30 hf)) (q1 ?b32_3 A W 33 hf)
  exact onn
 case t32 => exact inferInstance
 clear hr; intro a33 w33 x hr hd hs
 revert s6; revert s3; revert s1; refine kp3 hs rfl ?_; intro s1 s3 s6
 have s34 := fa ?b32_4 a33 w33 34 (hd 4 34 rfl)
 replace e_w := e_w.trans x
 have e_w31 := x
 replace m31 := m31.tr hs rfl; clear hd hs x
 refine et ?_
 refine wp_cond_split (show _ = _ from s34) (fun hlt => ?_) (fun hlt => ?_)
 ·
  have hlt : q < L.tags.length := by simp at hlt; omega
  obtain ⟨X, hX⟩ : ∃ X, X = L.tags[q]'hlt := ⟨_, rfl⟩
  have hxo : Qkf X = true := by rw [hX]; exact hall _ (List.getElem_mem hlt)
  unfold Qkf at hxo
  simp only [Bool.and_eq_true] at hxo
  have b1 := Qmn hxo.1
  have b2 := Qcn hxo.2
  have hfl := Q6e ht2 q
  refine wp_skip ?_
  refine es ?_
  refine wp_block ?_
  refine sq ?_
  refine Q05 (l := [_, _, _, _, _, _]) (rest := [_]) 72 [[(1, none)], [(37, some 0)], [(6, none)], [(38, some 1), (39, some 2)], [(40, some 3)], []] [?b35_0, ?b35_1, ?b35_2, ?b35_3, ?b35_4, ?b35_5] hr ?t35 ?o35 ?_
  case o35 =>
   apply oc0; intro A W hx hf
   exact Q02 2 tu46 (k := 2) rfl Q6r rfl (o2 s1 e_w31 hx (r0 hf)) rfl
   apply oc0; intro A W hx hf
   exact Qge (Q09 tu44 rfl (q0 ?b35_0 A W 37 hf) rfl) (Q00 (e_w.trans hx) hT)
   apply oc0; intro A W hx hf
   exact Q01 (a0 := a33) (r0 hf)
   apply oc0; intro A W hx hf
   exact Qdu (_) tu44 Qcj (q0 ?b35_1 A W 38 hf) (p2 s6 e_w31 hx (q1 ?b35_2 A W 39 hf)) (by exact hlt)
   apply oc0; intro A W hx hf
   exact Qfw tu94 rfl Qcj (q0 ?b35_3 A W 40 hf) (by rfl)
   apply oc0; intro A W hx hf
   exact Q0v [[.int .i64 0], [.int .i64 0]] [1, 1] Qmc (by rfl) (by rfl) hx.size
   exact onn
  case t35 => exact inferInstance
  clear hr; intro a36 w36 x hr hd hs
  have z_w_w33 := e_w.size
  have z_w31_w33 := e_w31.size
  have l36_1 := PxS.lt (Q00 e_w31 s1)
  have l36_3 := OwnBA.lt (Q00 e_w31 s3)
  revert s6; revert s3; revert s1; refine kp3 hs rfl ?_; intro s1 s3 s6
  clear s34
  have s41 := fa ?b35_4 a36 w36 41 (hd 4 41 rfl)
  have s7 := fa ?b35_5 a36 w36 7 (hd 5 7 rfl)
  obtain ⟨g36_7, q36_7⟩ := PxN.at s7; clear s7; have n36_7 := PxS.lt q36_7
  replace q36_7 := PxS.mono q36_7 e_w.size
  have s7 := q36_7; clear q36_7
  replace e_w := e_w.trans x
  replace e_w31 := e_w31.trans x
  replace m31 := m31.tr hs rfl; clear hd hs x
  have z37 := PxS.lt s7
  have l37 := (show (g36_7 = 0 ∨ w.heap.size < g36_7) ∧ True from ⟨by omega, trivial⟩)
  have l37_1 := PxS.lt (Q00 e_w31 s1)
  have l37_3 := OwnBA.lt (Q00 e_w31 s3)
  refine Q19 [[.int .i64 X.type], [.int .i64 X.tci]] hr Qcj s7 (Is.conv s41 (show _ = Value.agg [[Value.int .i64 X.type], [Value.int .i64 X.tci]].flatten.toArray from by rw [hX]; rfl)) (by rfl) (by intro u hu; simp at hu; rcases hu with rfl | rfl <;> rfl) rfl ?_; clear hr; intro a37 w37 hc hu hr hs
  have hb : Below w.heap.size w36 w37 := hc.below e_w.size l37.1
  revert s7; revert s6; revert s3; revert s1; refine kp4 hs rfl ?_; intro s1 s3 s6 s7
  clear s41
  replace s1 := PxS.other (Q00 e_w31 s1) hc (by omega)
  replace s3 := OwnBA.other (Q00 e_w31 s3) hc (by omega)
  replace s7 := hu _ _ _ s7
  try simp only [List.set_cons_zero, List.set_cons_succ] at s7
  replace e_w := e_w.below (Nat.le_refl _) hb
  clear e_w31
  replace s6 := anyw (w2 := w37) s6
  replace m31 := m31.tr hs rfl
  clear hu hs hc hb
  refine wpList_nil ?_
  refine et ?_
  refine Q05 (l := [_, _, _, _, _, _, _, _, _, _, _, _, _, _, _, _, _, _]) (rest := [_, _]) 72 [[(3, none)], [(7, none)], [(43, some 1)], [(44, some 2)], [(45, some 3)], [(7, none)], [(47, some 5)], [(48, some 6)], [(49, some 7)], [(7, none)], [(51, some 9)], [(52, some 10)], [(53, some 11)], [(7, none)], [(55, some 13)], [(56, some 14)], [(57, some 15)], [(46, some 4), (50, some 8), (54, some 12), (58, some 16)]] [?b38_0, ?b38_1, ?b38_2, ?b38_3, ?b38_4, ?b38_5, ?b38_6, ?b38_7, ?b38_8, ?b38_9, ?b38_10, ?b38_11, ?b38_12, ?b38_13, ?b38_14, ?b38_15, ?b38_16, ?b38_17] hr ?t38 ?o38 ?_
  case o38 =>
   apply oc0; intro A W hx hf
   exact Q01 (a0 := a37) (r0 hf)
   apply oc0; intro A W hx hf
   exact Q02 0 tu94 (k := 0) rfl Q0k rfl (o1 s7 hx (r0 hf)) rfl
   apply oc0; intro A W hx hf
   exact Q09 tu3 rfl (q0 ?b38_1 A W 43 hf) rfl
   apply oc0; intro A W hx hf
   exact Q30 (by decide) (q0 ?b38_2 A W 44 hf) (ec A (.int .i64 256))
   apply oc0; intro A W hx hf
   exact Q18 tu3 tu5 (q0 ?b38_3 A W 45 hf)
   apply oc0; intro A W hx hf
   exact Q02 0 tu94 (k := 0) rfl Q0k rfl (o1 s7 hx (r0 hf)) rfl
   apply oc0; intro A W hx hf
   exact Q09 tu3 rfl (q0 ?b38_5 A W 47 hf) rfl
   apply oc0; intro A W hx hf
   exact Q31 (by decide) (q0 ?b38_6 A W 48 hf) (ec A (.int .i64 256))
   apply oc0; intro A W hx hf
   exact Q18 tu3 tu5 (q0 ?b38_7 A W 49 hf)
   apply oc0; intro A W hx hf
   exact Q02 1 tu94 (k := 1) rfl Q0k rfl (o1 s7 hx (r0 hf)) rfl
   apply oc0; intro A W hx hf
   exact Q09 tu3 rfl (q0 ?b38_9 A W 51 hf) rfl
   apply oc0; intro A W hx hf
   exact Q30 (by decide) (q0 ?b38_10 A W 52 hf) (ec A (.int .i64 256))
   apply oc0; intro A W hx hf
   exact Q18 tu3 tu5 (q0 ?b38_11 A W 53 hf)
   apply oc0; intro A W hx hf
   exact Q02 1 tu94 (k := 1) rfl Q0k rfl (o1 s7 hx (r0 hf)) rfl
   apply oc0; intro A W hx hf
   exact Q09 tu3 rfl (q0 ?b38_13 A W 55 hf) rfl
   apply oc0; intro A W hx hf
   exact Q31 (by decide) (q0 ?b38_14 A W 56 hf) (ec A (.int .i64 256))
   apply oc0; intro A W hx hf
   exact Q18 tu3 tu5 (q0 ?b38_15 A W 57 hf)
   apply oc0; intro A W hx hf
   exact Q1m [(.tmp 46), (.tmp 50), (.tmp 54), (.tmp 58)] [_, _, _, _] tu22 Q0i Q2v rfl rfl (by decide) (PartsOk.cons (q0 ?b38_4 A W 46 hf) (PartsOk.cons (q1 ?b38_8 A W 50 hf) (PartsOk.cons (q2 ?b38_12 A W 54 hf) (PartsOk.cons (q3 ?b38_16 A W 58 hf) (PartsOk.nil)))))
   exact onn
  case t38 => exact inferInstance
  clear hr; intro a39 w39 x hr hd hs
  have u42 := mv s3 (fa ?b38_0 a39 w39 42 (hd 0 42 rfl))
  revert s6; revert s3; revert s1; refine kp3 hs rfl ?_; intro s1 s3 s6
  clear s7
  have s42 := u42; clear u42
  have s59 := fa ?b38_17 a39 w39 59 (hd 17 59 rfl)
  replace e_w := e_w.trans x
  have e_w37 := x
  replace m31 := m31.tr hs rfl; clear hd hs x
  have l40 := OwnBA.lt (Q00 e_w37 s42)
  have l40_1 := PxS.lt (Q00 e_w37 s1)
  refine Q0s hr (by decide) tu22 Q2q rfl (Q00 e_w37 s42) s59 e_w.size (by first | (simp; omega) | (simp only [List.length_append, List.length_take, List.length_cons, List.length_nil]; omega) | (have hfl2 := Q6e ht2 L.tags.length; simp only [List.length_append, List.length_take, List.length_cons, List.length_nil]; omega)) ?_; clear hr; intro g40 a40 w40 hg40 hc hr hd hs
  have hb := hc.below e_w.size l40.1
  revert s6; revert s1; refine kp2 hs rfl ?_; intro s1 s6
  clear s3 s42 s59
  replace s1 := PxS.other (Q00 e_w37 s1) hc (by omega)
  have s60 := hd
  replace e_w := e_w.below (Nat.le_refl _) hb
  clear e_w37
  replace s6 := anyw (w2 := w40) s6
  replace m31 := m31.tr hs rfl
  clear hd hs hb hc
  refine Q10 hr (Q03 s60) inferInstance ?_; clear hr; intro a41 w41 x hr hd hs
  revert s6; revert s1; refine kp2 hs rfl ?_; intro s1 s6
  clear s60
  have s3 := hd 3 rfl (by decide)
  replace e_w := e_w.trans x
  have e_w40 := x
  replace m31 := m31.tr hs rfl; clear hd hs x
  refine wpList_nil ?_
  refine Q0w ?_
  refine et ?_
  refine Q04 72 [[(6, none)], [(35, some 0)], [(36, some 1)]] [?b42_0, ?b42_1, ?b42_1] Q07 hr ?t42 ?o42 ?_
  case o42 =>
   apply oc0; intro A W hx hf
   exact Q01 (a0 := a41) (r0 hf)
   apply oc0; intro A W hx hf
   exact Q0h (p2 s6 e_w40 hx (q0 ?b42_0 A W 35 hf)) (ec A (.int .i64 1)) (by omega)
   apply oc0; intro A W hx hf
   exact Q03 (q0 ?b42_1 A W 36 hf)
   exact onn
  case t42 => exact inferInstance
  clear hr; intro a43 w43 x hr hd hs
  revert s3; revert s1; refine kp2 hs rfl ?_; intro s1 s3
  clear s6
  have s6 := fa ?b42_1 a43 w43 6 (hd 2 6 rfl)
  replace e_w := e_w.trans x
  replace e_w40 := e_w40.trans x
  have e_w41 := x
  replace m31 := m31.tr hs rfl; clear hd hs x
  refine et ?_
  refine ⟨(fun (q β : Nat) => L.tags.length - q) (q + 1) (0), ?_, ?_⟩
  · (try dsimp only); omega
  refine ⟨q + 1, g40, rfl, hr, m31, e_w, (by first | assumption | omega), (by first | assumption | omega), ?_, ?_, ?_⟩
  · exact (Q00 e_w40 s1)
  · exact OwnBA.cast (Q00 e_w41 s3) (by rw [Qir hlt, ← hX, Q4b b1, Q4c b1.1, Q4b b2, Q4c b2.1, show ((2 : Int) ^ 8) = 256 from rfl]; simp [Q7n, put2])
  · first | exact s6 | exact Is.int s6 (by first | omega | simp) | exact Is.bool s6 (by first | omega | simp)
 have hlt : q = L.tags.length := by simp at hlt; omega
 subst hlt
 refine wp_exit ?_
 refine Q0g ?_
 refine Q0g ?_
 refine Q1b ?_
 refine es ?_
 refine Q05 (l := [_, _, _, _, _, _, _, _, _, _]) (rest := [_, _]) 72 [[(3, none)], [(1, none)], [(62, some 1)], [(63, some 2)], [(64, some 3)], [(1, none)], [(66, some 5)], [(67, some 6)], [(68, some 7)], [(65, some 4), (69, some 8)]] [?b44_0, ?b44_1, ?b44_2, ?b44_3, ?b44_4, ?b44_5, ?b44_6, ?b44_7, ?b44_8, ?b44_9] hr ?t44 ?o44 ?_
 case o44 =>
  apply oc0; intro A W hx hf
  exact Q01 (a0 := a33) (r0 hf)
  apply oc0; intro A W hx hf
  exact Q02 3 tu46 (k := 3) rfl Q0k rfl (o2 s1 e_w31 hx (r0 hf)) rfl
  apply oc0; intro A W hx hf
  exact Q09 tu3 rfl (q0 ?b44_1 A W 62 hf) rfl
  apply oc0; intro A W hx hf
  exact Q30 (by decide) (q0 ?b44_2 A W 63 hf) (ec A (.int .i64 256))
  apply oc0; intro A W hx hf
  exact Q18 tu3 tu5 (q0 ?b44_3 A W 64 hf)
  apply oc0; intro A W hx hf
  exact Q02 3 tu46 (k := 3) rfl Q0k rfl (o2 s1 e_w31 hx (r0 hf)) rfl
  apply oc0; intro A W hx hf
  exact Q09 tu3 rfl (q0 ?b44_5 A W 66 hf) rfl
  apply oc0; intro A W hx hf
  exact Q31 (by decide) (q0 ?b44_6 A W 67 hf) (ec A (.int .i64 256))
  apply oc0; intro A W hx hf
  exact Q18 tu3 tu5 (q0 ?b44_7 A W 68 hf)
  apply oc0; intro A W hx hf
  exact Q1m [(.tmp 65), (.tmp 69)] [_, _] tu22 Q0i Q2v rfl rfl (by decide) (PartsOk.cons (q0 ?b44_4 A W 65 hf) (PartsOk.cons (q1 ?b44_8 A W 69 hf) (PartsOk.nil)))
  exact onn
 case t44 => exact inferInstance
 clear hr; intro a45 w45 x hr hd hs
 have u61 := mv s3 (fa ?b44_0 a45 w45 61 (hd 0 61 rfl))
 clear s1 s3 s6 s34
 have s61 := u61; clear u61
 have s70 := fa ?b44_9 a45 w45 70 (hd 9 70 rfl)
 replace e_w := e_w.trans x
 replace e_w31 := e_w31.trans x; clear hd hs x
 have l46 := OwnBA.lt (Q00 e_w31 s61)
 refine Q0s hr (by decide) tu22 Q2q rfl (Q00 e_w31 s61) s70 e_w.size (by first | (simp; omega) | (simp only [List.length_append, List.length_take, List.length_cons, List.length_nil]; omega) | (have hfl2 := Q6e ht2 L.tags.length; simp only [List.length_append, List.length_take, List.length_cons, List.length_nil]; omega)) ?_; clear hr; intro g46 a46 w46 hg46 hc hr hd hs
 have hb := hc.below e_w.size l46.1
 clear s61 s70
 have s71 := hd
 replace e_w := e_w.below (Nat.le_refl _) hb
 clear e_w31
 clear hd hs hb hc
 refine Q10 hr (Q03 s71) inferInstance ?_; clear hr; intro a47 w47 x hr hd hs
 clear s71
 have s2 := hd 2 rfl (by decide)
 replace e_w := e_w.trans x; clear hd hs x
 refine wpList_nil ?_
 refine et ?_
 refine wp_ret ?_
 refine Q14 Try.results33 hr e_w ?_
 exact OwnB.cast (OwnB.mono s2.own hB) (by rw [List.take_length, List.take_of_length_le (by omega), List.take_of_length_le (by omega), Q4b hty, Q4c hty.1, show ((2 : Int) ^ 8) = 256 from rfl]; simp [Q6c, put2])

end Go.Proofs.Ytlmdboaghojgiaa
