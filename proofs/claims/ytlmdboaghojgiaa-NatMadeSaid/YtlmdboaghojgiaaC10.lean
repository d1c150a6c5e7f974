import Derived.Test.YtlmdboaghojgiaaC01
import Derived.Test.YtlmdboaghojgiaaC06
import Derived.Test.YtlmdboaghojgiaaZ
namespace Go.Proofs.Ytlmdboaghojgiaa
open Go.RowKit
set_option linter.unusedVariables false
set_option linter.unusedSimpArgs false
set_option maxRecDepth 4000
theorem Qe1 {x0 x1 : Value} {w : World} {l : List UInt8} {z : Int} (h0 : (Bs l) x0 w) (h1 : (Is (.int .i64 z)) x1 w) (hz0 : 0 ≤ z) (hz1 : z.toNat + 2 ≤ l.length) :
    Calls Try.prog 73 #[x0, x1] w (Ret (Is (.int .i64 (Q07 l z.toNat))) w) := by
 have hlen := Bs.len_le h0
 obtain ⟨i, rfl⟩ : ∃ i : Nat, z = (i : Int) := ⟨z.toNat, by omega⟩
 simp only [Int.toNat_natCast] at hz1 ⊢
 have hbe := Qdh hz1
 have hw := Q0w l i
 have h8 : (subl l i (i + 2)).take 8 = subl l i (i + 2) := List.take_of_length_le (by simp [subl]; omega)
 refine enter Try.func73 rfl Try.ntmps73 (k := 2) rfl (by decide) (fun a0 hr hargs => ?_)
 have s0 := sarg h0 (hargs 0 (by decide))
 have s1 := sarg h1 (hargs 1 (by decide))
 clear hargs
 refine sq ?_
 refine Q04 12 [[]] [?b1_0] Q08 hr ?t1 ?o1 ?_
 case o1 =>
  apply oc0; intro A W hx hf
  exact Q05
  exact onn
 case t1 => exact inferInstance
 clear hr; intro a2 w2 x hr hd hs
 revert s1; revert s0; refine kp2 hs rfl ?_; intro s0 s1
 have e_w := x; clear hd hs x
 refine es ?_
 refine Q04 12 [[(0, none)], [(1, none)], [(1, none)], [(7, some 2)], [(5, some 0), (6, some 1), (8, some 3)], [(9, some 4)], [(10, some 5)], [(11, some 6)]] [?b3_0, ?b3_1, ?b3_2, ?b3_3, ?b3_4, ?b3_5, ?b3_6, ?b3_6] Q08 hr ?t3 ?o3 ?_
 case o3 =>
  apply oc0; intro A W hx hf
  exact Q01 (a0 := a2) (r0 hf)
  apply oc0; intro A W hx hf
  exact Q01 (a0 := a2) (r0 hf)
  apply oc0; intro A W hx hf
  exact Q01 (a0 := a2) (r0 hf)
  apply oc0; intro A W hx hf
  exact Q0o (p2 s1 e_w hx (q0 ?b3_2 A W 7 hf)) (ec A (.int .i64 2)) (by omega)
  apply oc0; intro A W hx hf
  exact Q3x (i) (i + 2) tu22 Q0s (p2 s0 e_w hx (q0 ?b3_0 A W 5 hf)) (p2 s1 e_w hx (q1 ?b3_1 A W 6 hf)) (Is.int (q2 ?b3_3 A W 8 hf) (by omega)) (by first | omega | decide | (simp; done) | (simp; omega)) (by first | omega | decide | (simp; done) | (simp; omega))
  apply oc0; intro A W hx hf
  exact Q0p Qdc (Qk2 (q0 ?b3_4 A W 9 hf) (show Is (.bool true) (A.eval (.const (.bool true))) _ from rfl))
  apply oc0; intro A W hx hf
  exact Q2d tu84 tu3 (by rw [h8, hbe]; exact IntWalk.i64_in _ (by omega)) (q0 ?b3_5 A W 10 hf)
  apply oc0; intro A W hx hf
  exact Q03 (q0 ?b3_6 A W 11 hf)
  exact onn
 case t3 => exact inferInstance
 clear hr; intro a4 w4 x hr hd hs
 clear s0 s1
 have s4 := fa ?b3_6 a4 w4 4 (hd 7 4 rfl)
 replace e_w := e_w.trans x; clear hd hs x
 refine et ?_
 refine wp_ret ?_
 refine Q0r Try.results73 hr e_w ?_
 exact Is.int s4 (by rw [h8, hbe])

theorem Qe0 {x0 x1 : Value} {w : World} {q : Int} {l : List UInt8} (h0 : (Is (.int .i64 q)) x0 w) (h1 : (Bs l) x1 w) (q6 : q ≠ 6) (q17 : q ≠ 17) :
    Calls Try.prog 61 #[x0, x1] w (Ret (Tup2 (Is (Qcd ((Q2z, 5)).1)) (Is (.int .i64 ((Q2z, 5)).2))) w) := by
 have e6 : (q == 6) = false := by simpa using q6
 have e17 : (q != 17) = true := by simpa using q17
 refine enter Try.func61 rfl Try.ntmps61 (k := 2) rfl (by decide) (fun a0 hr hargs => ?_)
 have s0 := sarg h0 (hargs 0 (by decide))
 have s1 := sarg h1 (hargs 1 (by decide))
 clear hargs
 refine sq ?_
 refine Q04 75 [[], []] [?b1_0, ?b1_1] Q08 hr ?t1 ?o1 ?_
 case o1 =>
  apply oc0; intro A W hx hf
  exact Q0y [(Q2q Q2z).flatten] [5] Q5o (by rfl) (by rfl) hx.size
  apply oc0; intro A W hx hf
  exact Q05
  exact onn
 case t1 => exact inferInstance
 clear hr; intro a2 w2 x hr hd hs
 revert s1; revert s0; refine kp2 hs rfl ?_; intro s0 s1
 have s4 := fa ?b1_0 a2 w2 4 (hd 0 4 rfl)
 obtain ⟨g2_4, q2_4⟩ := PxN.at s4; clear s4; have n2_4 := PxS.lt q2_4
 have s4 := q2_4; clear q2_4
 have e_w := x; clear hd hs x
 refine es ?_
 refine Q04 75 [[(0, none)], [(8, some 0)], [(9, some 1)]] [?b3_0, ?b3_1, ?b3_1] Q08 hr ?t3 ?o3 ?_
 case o3 =>
  apply oc0; intro A W hx hf
  exact Q01 (a0 := a2) (r0 hf)
  apply oc0; intro A W hx hf
  exact Q1i (p2 s0 e_w hx (q0 ?b3_0 A W 8 hf)) (ec A (.int .i64 6))
  apply oc0; intro A W hx hf
  exact Q03 (q0 ?b3_1 A W 9 hf)
  exact onn
 case t3 => exact inferInstance
 clear hr; intro a4 w4 x hr hd hs
 revert s4; revert s1; revert s0; refine kp3 hs rfl ?_; intro s0 s1 s4
 have s6 := fa ?b3_1 a4 w4 6 (hd 2 6 rfl)
 replace e_w := e_w.trans x
 have e_w2 := x; clear hd hs x
 refine es ?_
 refine wp_block ?_
 refine sq ?_
 refine Q04 75 [[(6, none)], [(11, some 0)], [(12, some 1)], [(0, none), (13, some 2)], [(14, some 3), (13, some 2)], [(13, some 2), (15, some 4)], [(16, some 5)]] [?b5_0, ?b5_1, ?b5_1, ?b5_3, ?b5_4, ?b5_5, ?b5_5] Q08 hr ?t5 ?o5 ?_
 case o5 =>
  apply oc0; intro A W hx hf
  exact Q01 (a0 := a4) (r0 hf)
  apply oc0; intro A W hx hf
  exact Q43 (p1 s6 hx (q0 ?b5_0 A W 11 hf))
  apply oc0; intro A W hx hf
  exact Q0h (q0 ?b5_1 A W 12 hf)
  refine ocg 13 ?_ (fun A W hx hf => ?_) ?_
  rfl
  exact gd_t (q1 ?b5_1 A W 13 hf) (fun hc => Q01 (a0 := a4) (r0 hf))
  refine ocg 13 ?_ (fun A W hx hf => ?_) ?_
  rfl
  exact gd_t (q1 ?b5_1 A W 13 hf) (fun hc => Q48 (p2 s0 e_w hx (G.get (q0 ?b5_3 A W 14 hf) hc)) (ec A (.int .i64 17)))
  apply oc0; intro A W hx hf
  exact Q2p (q0 ?b5_1 A W 13 hf) (q1 ?b5_4 A W 15 hf)
  apply oc0; intro A W hx hf
  exact Q03 (q0 ?b5_5 A W 16 hf)
  exact onn
 case t5 => exact inferInstance
 clear hr; intro a6 w6 x hr hd hs
 revert s6; revert s4; revert s1; refine kp3 hs rfl ?_; intro s1 s4 s6
 clear s0
 have s10 := fa ?b5_5 a6 w6 10 (hd 6 10 rfl)
 replace e_w := e_w.trans x
 replace e_w2 := e_w2.trans x
 have e_w4 := x; clear hd hs x
 refine et ?_
 refine wp_cond_split (show _ = _ from s10) (fun hd9 => ?_) (fun hd9 => ?_)
 ·
  skip
  refine sq ?_
  refine Q06 (l := [_]) (rest := [_, _]) 75 [[]] [?b8_0] hr ?t8 ?o8 ?_
  case o8 =>
   apply oc0; intro A W hx hf
   exact Q13 Q3t
   exact onn
  case t8 => exact inferInstance
  clear hr; intro a9 w9 x hr hd hs
  revert s4; refine kp1 hs rfl ?_; intro s4
  clear s1 s6 s10
  have s17 := fa ?b8_0 a9 w9 17 (hd 0 17 rfl)
  replace e_w := e_w.trans x
  replace e_w2 := e_w2.trans x
  clear e_w4; clear hd hs x
  have z10 := PxS.lt (Q00 e_w2 s4)
  have l10 := (show (g2_4 = 0 ∨ w.heap.size < g2_4) ∧ True from ⟨by omega, trivial⟩)
  refine Q0k hr Q1j (Q00 e_w2 s4) s17 (by exact Q2b _) (by exact Q1r) rfl ?_; clear hr; intro a10 w10 hc hu hr hs
  have hb : Below w.heap.size w9 w10 := hc.below e_w.size l10.1
  revert s4; refine kp1 hs rfl ?_; intro s4
  clear s17
  replace s4 := hu _ _ _ (Q00 e_w2 s4)
  try simp only [List.set_cons_zero, List.set_cons_succ] at s4
  replace e_w := e_w.below (Nat.le_refl _) hb
  clear e_w2
  clear hu hs hc hb
  refine Q11 hr (Q05) inferInstance ?_; clear hr; intro a11 w11 x hr hd hs
  revert s4; refine kp1 hs rfl ?_; intro s4
  have s5 := hd 5 rfl (by decide)
  replace e_w := e_w.trans x
  have e_w10 := x; clear hd hs x
  refine wpList_nil ?_
  refine et ?_
  refine wp_ret ?_
  refine Q1t ?_
  refine Q0e ?_
  refine Q0f Try.results61 hr tu66 rfl Q1j (Q00 e_w10 s4) e_w ?_
  exact ⟨_, _, rfl, rfl, s5⟩
 exfalso; rw [e6, e17] at hd9; simp at hd9

def Q6n : List Tmp := [18, 25, 26, 27]
def Q6o : List Tmp := [53, 60, 61, 62]
theorem Qf8 {x0 x1 : Value} {w : World} {l : List UInt8} (h0 : (Is (.int .i64 6)) x0 w) (h1 : (Bs l) x1 w)  :
    Calls Try.prog 61 #[x0, x1] w (Ret (Tup2 (Is (Qcd (Q24 l).1)) (Is (.int .i64 (Q24 l).2))) w) := by
 have hlen := Bs.len_le h1
 refine enter Try.func61 rfl Try.ntmps61 (k := 2) rfl (by decide) (fun a0 hr hargs => ?_)
 have s0 := sarg h0 (hargs 0 (by decide))
 have s1 := sarg h1 (hargs 1 (by decide))
 clear hargs
 refine sq ?_
 refine Q04 75 [[], []] [?b1_0, ?b1_1] Q08 hr ?t1 ?o1 ?_
 case o1 =>
  apply oc0; intro A W hx hf
  exact Q0y [(Q2q Q2z).flatten] [5] Q5o (by rfl) (by rfl) hx.size
  apply oc0; intro A W hx hf
  exact Q05
  exact onn
 case t1 => exact inferInstance
 clear hr; intro a2 w2 x hr hd hs
 revert s1; revert s0; refine kp2 hs rfl ?_; intro s0 s1
 have s4 := fa ?b1_0 a2 w2 4 (hd 0 4 rfl)
 obtain ⟨g2_4, q2_4⟩ := PxN.at s4; clear s4; have n2_4 := PxS.lt q2_4
 have s4 := q2_4; clear q2_4
 have e_w := x; clear hd hs x
 refine es ?_
 refine Q04 75 [[(0, none)], [(8, some 0)], [(9, some 1)]] [?b3_0, ?b3_1, ?b3_1] Q08 hr ?t3 ?o3 ?_
 case o3 =>
  apply oc0; intro A W hx hf
  exact Q01 (a0 := a2) (r0 hf)
  apply oc0; intro A W hx hf
  exact Q1i (p2 s0 e_w hx (q0 ?b3_0 A W 8 hf)) (ec A (.int .i64 6))
  apply oc0; intro A W hx hf
  exact Q03 (q0 ?b3_1 A W 9 hf)
  exact onn
 case t3 => exact inferInstance
 clear hr; intro a4 w4 x hr hd hs
 revert s4; revert s1; revert s0; refine kp3 hs rfl ?_; intro s0 s1 s4
 have s6 := fa ?b3_1 a4 w4 6 (hd 2 6 rfl)
 replace e_w := e_w.trans x
 have e_w2 := x; clear hd hs x
 refine es ?_
 refine wp_block ?_
 refine sq ?_
 refine Q04 75 [[(6, none)], [(11, some 0)], [(12, some 1)], [(0, none), (13, some 2)], [(14, some 3), (13, some 2)], [(13, some 2), (15, some 4)], [(16, some 5)]] [?b5_0, ?b5_1, ?b5_1, ?b5_3, ?b5_4, ?b5_5, ?b5_5] Q08 hr ?t5 ?o5 ?_
 case o5 =>
  apply oc0; intro A W hx hf
  exact Q01 (a0 := a4) (r0 hf)
  apply oc0; intro A W hx hf
  exact Q43 (p1 s6 hx (q0 ?b5_0 A W 11 hf))
  apply oc0; intro A W hx hf
  exact Q0h (q0 ?b5_1 A W 12 hf)
  refine ocg 13 ?_ (fun A W hx hf => ?_) ?_
  rfl
  exact gd_t (q1 ?b5_1 A W 13 hf) (fun hc => Q01 (a0 := a4) (r0 hf))
  refine ocg 13 ?_ (fun A W hx hf => ?_) ?_
  rfl
  exact gd_t (q1 ?b5_1 A W 13 hf) (fun hc => Q48 (p2 s0 e_w hx (G.get (q0 ?b5_3 A W 14 hf) hc)) (ec A (.int .i64 17)))
  apply oc0; intro A W hx hf
  exact Q2p (q0 ?b5_1 A W 13 hf) (q1 ?b5_4 A W 15 hf)
  apply oc0; intro A W hx hf
  exact Q03 (q0 ?b5_5 A W 16 hf)
  exact onn
 case t5 => exact inferInstance
 clear hr; intro a6 w6 x hr hd hs
 revert s6; revert s4; revert s1; refine kp3 hs rfl ?_; intro s1 s4 s6
 clear s0
 have s10 := fa ?b5_5 a6 w6 10 (hd 6 10 rfl)
 replace e_w := e_w.trans x
 replace e_w2 := e_w2.trans x
 have e_w4 := x; clear hd hs x
 refine et ?_
 refine wp_cond_split (show _ = _ from s10) (fun hd9 => ?_) (fun hd9 => ?_)
 ·
  exfalso; simp at hd9
 skip
 refine sq ?_
 refine sq ?_
 refine Q04 75 [[(6, none)], [(19, some 0)], [(1, none), (20, some 1)], [(21, some 2), (20, some 1)], [(22, some 3), (20, some 1)], [(20, some 1), (23, some 4)], [(24, some 5)]] [?b8_0, ?b8_0, ?b8_2, ?b8_3, ?b8_4, ?b8_5, ?b8_5] Q08 hr ?t8 ?o8 ?_
 case o8 =>
  apply oc0; intro A W hx hf
  exact Q01 (a0 := a6) (r0 hf)
  apply oc0; intro A W hx hf
  exact Q0h (q0 ?b8_0 A W 19 hf)
  refine ocg 20 ?_ (fun A W hx hf => ?_) ?_
  rfl
  exact gd_t (p2 s6 e_w4 hx (q1 ?b8_0 A W 20 hf)) (fun hc => Q01 (a0 := a6) (r0 hf))
  refine ocg 20 ?_ (fun A W hx hf => ?_) ?_
  rfl
  exact gd_t (p2 s6 e_w4 hx (q1 ?b8_0 A W 20 hf)) (fun hc => Q0v tu22 (p2 s1 e_w hx (G.get (q0 ?b8_2 A W 21 hf) hc)))
  refine ocg 20 ?_ (fun A W hx hf => ?_) ?_
  rfl
  exact gd_t (p2 s6 e_w4 hx (q1 ?b8_0 A W 20 hf)) (fun hc => Q1b (G.get (q0 ?b8_3 A W 22 hf) hc) (ec A (.int .i64 20)))
  apply oc0; intro A W hx hf
  exact Q2p (p2 s6 e_w4 hx (q0 ?b8_0 A W 20 hf)) (q1 ?b8_4 A W 23 hf)
  apply oc0; intro A W hx hf
  exact Q03 (q0 ?b8_5 A W 24 hf)
  exact onn
 case t8 => exact inferInstance
 clear hr; intro a9 w9 x hr hd hs
 revert s6; revert s4; revert s1; refine kp3 hs rfl ?_; intro s1 s4 s6
 clear s10
 have s18 := fa ?b8_5 a9 w9 18 (hd 6 18 rfl)
 replace e_w := e_w.trans x
 replace e_w2 := e_w2.trans x
 replace e_w4 := e_w4.trans x; clear hd hs x
 refine et ?_
 refine Q33 (fun A W => Fr 75 A ∧ Same Q6n a9 A ∧ Ext w W ∧ (Is (.bool (decide (l.length < 20)))) (A.eval (.tmp 18)) W ∧ (PxS g2_4 w.heap.size [5] [(Q2q Q2z).flatten] 0) (A.eval (.tmp 4)) W) ?cut10 ?_
 case cut10 =>
  have m10 : Same Q6n a9 a9 := Same.rfl
  refine wp_cond_split (show _ = _ from s18) (fun hl0 => ?_) (fun hl0 => ?_)
  ·
   skip
   refine wp_skip ?_
   refine et ?_
   refine ⟨hr, m10, e_w, ?_, ?_⟩
   · refine Is.bool s18 ?_; first | (rw [decide_eq_false (by omega), decide_eq_false hl0]) | (simp; omega)
   · exact (Q00 e_w2 s4)
  have hl0 : ¬ l.length < 20 := by simp at hl0; omega
  refine Q04 75 [[(1, none)], [(25, some 0)], [(26, some 1)], [(27, some 2)]] [?b12_0, ?b12_1, ?b12_2, ?b12_2] Q08 hr ?t12 ?o12 ?_
  case o12 =>
   apply oc0; intro A W hx hf
   exact Q01 (a0 := a9) (r0 hf)
   apply oc0; intro A W hx hf
   exact Q0v tu22 (p2 s1 e_w hx (q0 ?b12_0 A W 25 hf))
   apply oc0; intro A W hx hf
   exact Q1b (q0 ?b12_1 A W 26 hf) (ec A (.int .i64 8))
   apply oc0; intro A W hx hf
   exact Q03 (q0 ?b12_2 A W 27 hf)
   exact onn
  case t12 => exact inferInstance
  clear hr; intro a13 w13 x hr hd hs
  revert s6; revert s4; revert s1; refine kp3 hs rfl ?_; intro s1 s4 s6
  clear s18
  have s18 := fa ?b12_2 a13 w13 18 (hd 3 18 rfl)
  replace e_w := e_w.trans x
  replace e_w2 := e_w2.trans x
  replace e_w4 := e_w4.trans x
  replace m10 := m10.tr hs rfl; clear hd hs x
  refine et ?_
  refine ⟨hr, m10, e_w, ?_, ?_⟩
  · refine Is.bool s18 ?_; first | (rw [decide_eq_false (by omega), decide_eq_false hl0]) | (simp; omega)
  · exact (Q00 e_w2 s4)
 intro a10 w10 hI
 clear e_w
 clear e_w2
 clear e_w4
 clear hr; obtain ⟨hr, hs, e_w, u18, u4⟩ := hI
 revert s6; revert s1; refine kp2 hs rfl ?_; intro s1 s6
 clear s4 s18
 have s18 := u18; clear u18
 have s4 := u4; clear u4
 replace s6 := anyw (w2 := w10) s6
 clear hs
 refine wp_cond_split (show _ = _ from s18) (fun hl => ?_) (fun hl => ?_)
 ·
  have hl : l.length < 20 := of_decide_eq_true hl
  have hrd : Q24 l = (Q2z, 2) := by unfold Q24; rw [if_pos hl]
  refine sq ?_
  refine Q06 (l := [_]) (rest := [_, _]) 75 [[]] [?b15_0] hr ?t15 ?o15 ?_
  case o15 =>
   apply oc0; intro A W hx hf
   exact Q13 Q3t
   exact onn
  case t15 => exact inferInstance
  clear hr; intro a16 w16 x hr hd hs
  revert s4; refine kp1 hs rfl ?_; intro s4
  clear s1 s18 s6
  have s28 := fa ?b15_0 a16 w16 28 (hd 0 28 rfl)
  replace e_w := e_w.trans x
  have e_w10 := x; clear hd hs x
  have z17 := PxS.lt (Q00 e_w10 s4)
  have l17 := (show (g2_4 = 0 ∨ w.heap.size < g2_4) ∧ True from ⟨by omega, trivial⟩)
  refine Q0k hr Q1j (Q00 e_w10 s4) s28 (by exact Q2b _) (by exact Q1r) rfl ?_; clear hr; intro a17 w17 hc hu hr hs
  have hb : Below w.heap.size w16 w17 := hc.below e_w.size l17.1
  revert s4; refine kp1 hs rfl ?_; intro s4
  clear s28
  replace s4 := hu _ _ _ (Q00 e_w10 s4)
  try simp only [List.set_cons_zero, List.set_cons_succ, Q2q] at s4
  replace e_w := e_w.below (Nat.le_refl _) hb
  clear e_w10
  clear hu hs hc hb
  refine Q11 hr (Q05) inferInstance ?_; clear hr; intro a18 w18 x hr hd hs
  revert s4; refine kp1 hs rfl ?_; intro s4
  have s5 := hd 5 rfl (by decide)
  replace e_w := e_w.trans x
  have e_w17 := x; clear hd hs x
  refine wpList_nil ?_
  refine et ?_
  refine wp_ret ?_
  refine Q1t ?_
  refine Q0e ?_
  refine Q0f Try.results61 hr tu66 rfl Q1j (Q00 e_w17 s4) e_w ?_
  (rw [hrd]; exact ⟨_, _, rfl, rfl, s5⟩)
 have hl : ¬ l.length < 20 := of_decide_eq_false hl
 have e12 : (l[12]'(by omega)).toNat = Q09 l 12 := (Q10 (by omega)).symm
 have e13 : (l[13]'(by omega)).toNat = Q09 l 13 := (Q10 (by omega)).symm
 have b12 := Q1q l 12
 have b13 := Q1q l 13
 refine wp_skip ?_
 refine Q0x ?_
 refine es ?_
 refine Q06 (l := [_, _, _, _, _, _, _, _]) (rest := [_]) 75 [[(1, none)], [(29, some 0)], [(1, none)], [(31, some 2)], [(1, none)], [(33, some 4)], [(30, some 1), (32, some 3), (34, some 5)], []] [?b19_0, ?b19_1, ?b19_2, ?b19_3, ?b19_4, ?b19_5, ?b19_6, ?b19_7] hr ?t19 ?o19 ?_
 case o19 =>
  apply oc0; intro A W hx hf
  exact Q01 (a0 := a10) (r0 hf)
  apply oc0; intro A W hx hf
  exact Q0p Qdd (Qe1 (p2 s1 e_w hx (q0 ?b19_0 A W 29 hf)) (show Is (.int .i64 0) (A.eval (.const (.int .i64 0))) _ from rfl) (by decide) (by first | omega | (show 2 ≤ _; omega) | (show 4 ≤ _; omega) | (show 6 ≤ _; omega) | (show 8 ≤ _; omega)))
  apply oc0; intro A W hx hf
  exact Q01 (a0 := a10) (r0 hf)
  apply oc0; intro A W hx hf
  exact Q0p Qdd (Qe1 (p2 s1 e_w hx (q0 ?b19_2 A W 31 hf)) (show Is (.int .i64 2) (A.eval (.const (.int .i64 2))) _ from rfl) (by decide) (by first | omega | (show 2 ≤ _; omega) | (show 4 ≤ _; omega) | (show 6 ≤ _; omega) | (show 8 ≤ _; omega)))
  apply oc0; intro A W hx hf
  exact Q01 (a0 := a10) (r0 hf)
  apply oc0; intro A W hx hf
  exact Q0v tu22 (p2 s1 e_w hx (q0 ?b19_4 A W 33 hf))
  apply oc0; intro A W hx hf
  exact Q1e [(0, (.tmp 30)), (1, (.tmp 32)), (3, (.const (.int .i64 8))), (4, (.tmp 34))] [(0, _), (1, _), (3, _), (4, _)] Ql5 rfl (PartsC.one (q0 ?b19_1 A W 30 hf) rfl (PartsC.one (q1 ?b19_3 A W 32 hf) rfl (PartsC.one (ec A (.int .i64 8)) rfl (PartsC.one (q2 ?b19_5 A W 34 hf) rfl (PartsC.nil))))) (by first | rfl | simp [Q0l, *])
  apply oc0; intro A W hx hf
  exact Q0y (Q2q Q2z) [1, 1, 1, 1, 1] Q5o (by rfl) (by rfl) hx.size
  exact onn
 case t19 => exact inferInstance
 clear hr; intro a20 w20 x hr hd hs
 have z_w_w10 := e_w.size
 have l20_4 := PxS.lt s4
 revert s6; revert s4; revert s1; refine kp3 hs rfl ?_; intro s1 s4 s6
 clear s18
 have s35 := fa ?b19_6 a20 w20 35 (hd 6 35 rfl)
 have s7 := fa ?b19_7 a20 w20 7 (hd 7 7 rfl)
 obtain ⟨g20_7, q20_7⟩ := PxN.at s7; clear s7; have n20_7 := PxS.lt q20_7
 replace q20_7 := PxS.mono q20_7 e_w.size
 have s7 := q20_7; clear q20_7
 replace e_w := e_w.trans x
 have e_w10 := x; clear hd hs x
 have z21 := PxS.lt s7
 have l21 := (show (g20_7 = 0 ∨ w.heap.size < g20_7) ∧ True from ⟨by omega, trivial⟩)
 have l21_4 := PxS.lt (Q00 e_w10 s4)
 refine Q19 (Q2q ⟨Q07 l 0, Q07 l 2, 0, 8, (l.length : Int)⟩) hr Q1j s7 s35 (by rfl) (by exact Q1r) rfl ?_; clear hr; intro a21 w21 hc hu hr hs
 have hb : Below w.heap.size w20 w21 := hc.below e_w.size l21.1
 revert s7; revert s6; revert s4; revert s1; refine kp4 hs rfl ?_; intro s1 s4 s6 s7
 clear s35
 replace s4 := PxS.other (Q00 e_w10 s4) hc (by omega)
 replace s7 := hu _ _ _ s7
 try simp only [List.set_cons_zero, List.set_cons_succ, Q2q] at s7
 replace e_w := e_w.below (Nat.le_refl _) hb
 clear e_w10
 replace s6 := anyw (w2 := w21) s6
 clear hu hs hc hb
 refine wpList_nil ?_
 refine es ?_
 refine sq ?_
 refine Q04 75 [[(6, none)]] [?b22_0] Q08 hr ?t22 ?o22 ?_
 case o22 =>
  apply oc0; intro A W hx hf
  exact Q01 (a0 := a21) (r0 hf)
  exact onn
 case t22 => exact inferInstance
 clear hr; intro a23 w23 x hr hd hs
 have u36 := mv s6 (fa ?b22_0 a23 w23 36 (hd 0 36 rfl))
 revert s6; revert s7; revert s4; revert s1; refine kp4 hs rfl ?_; intro s1 s4 s7 s6
 have s36 := u36; clear u36
 replace e_w := e_w.trans x
 have e_w21 := x; clear hd hs x
 refine et ?_
 refine wp_cond_split (show _ = _ from s36) (fun hd9 => ?_) (fun hd9 => ?_)
 ·
  skip
  refine Q4a (fun W => Below w.heap.size w W) Q08 (fun w' x => (e_w.trans x)) (fun w25 x hS => ?_)
  show wpAnyH _ _ _ _ _ 15 _ _ _
  replace e_w := e_w.trans x
  replace e_w21 := e_w21.trans x
  clear x
  refine Q0n (i := 0) hr rfl (by decide) (by kernel_rfl) (fun _ _ _ _ h => h) (yh (Q1p (Q0h (show AtW w _ _ _ from s1)) (Q3s))) hS ?_; clear hr; intro a26 hr hd hs
  revert s6; revert s7; revert s4; revert s1; refine kp4 hs rfl ?_; intro s1 s4 s7 s6
  clear s36
  have s37 := AtW.base hd
  clear hd hs
  refine Q0n (i := 1) hr rfl (by decide) (by kernel_rfl) (fun _ _ _ _ h => h) (yh (Q1p (Q8s (12) tu22 Q0s s37 (ec a26 (.int .i64 12)) (by omega)) (Qfz (i := 12) tu22 Q0s (Q00 e_w s37) (ec a26 (.int .i64 12)) (by omega)))) hS ?_; clear hr; intro a27 hr hd hs
  revert s37; revert s6; revert s7; revert s4; revert s1; refine kp5 hs rfl ?_; intro s1 s4 s7 s6 s37
  have s38 := hd
  clear hd hs
  refine Q0n (i := 2) hr rfl (by decide) (by kernel_rfl) (fun _ _ _ _ h => h) (Qfu tu5 rfl s38 (fun _ h => h)) hS ?_; clear hr; intro a28 hr hd hs
  revert s38; revert s37; revert s6; revert s7; revert s4; revert s1; refine kp6 hs rfl ?_; intro s1 s4 s7 s6 s37 s38
  have s39 := hd
  clear hd hs
  refine Q0n (i := 3) hr rfl (by decide) (by kernel_rfl) (fun _ _ _ _ h => h) (yh (Q1p (Qcz 4 (by decide) s39 (ec a28 (.int .u64 4))) (Ql4 (by simp) s39 (ec a28 (.int .u64 4)) (by decide)))) hS ?_; clear hr; intro a29 hr hd hs
  revert s38; revert s37; revert s6; revert s7; revert s4; revert s1; refine kp6 hs rfl ?_; intro s1 s4 s7 s6 s37 s38
  revert s39; refine kp1 hs rfl ?_; intro s39
  have s40 := hd
  clear hd hs
  refine Q0n (i := 4) hr rfl (by decide) (by kernel_rfl) (fun _ _ _ _ h => h) (yh (Q1p (Q2d tu5 tu3 (by exact IntWalk.i64_in _ (by omega)) s40) (Qib tu5 tu3 s40))) hS ?_; clear hr; intro a30 hr hd hs
  revert s38; revert s37; revert s6; revert s7; revert s4; revert s1; refine kp6 hs rfl ?_; intro s1 s4 s7 s6 s37 s38
  revert s40; revert s39; refine kp2 hs rfl ?_; intro s39 s40
  have s41 := hd
  clear hd hs
  refine Q0n (i := 5) hr rfl (by decide) (by kernel_rfl) (fun _ _ _ _ h => h) (yh (Q1p (Q5j s41 (ec a30 (.int .i64 4)) (by omega)) (Qfv (by simp) s41 (ec a30 (.int .i64 4)) rfl))) hS ?_; clear hr; intro a31 hr hd hs
  revert s38; revert s37; revert s6; revert s7; revert s4; revert s1; refine kp6 hs rfl ?_; intro s1 s4 s7 s6 s37 s38
  revert s41; revert s40; revert s39; refine kp3 hs rfl ?_; intro s39 s40 s41
  have s42 := hd
  clear hd hs
  refine Q0n (i := 6) hr rfl (by decide) (by kernel_rfl) (fun _ _ _ _ h => h) (yh (Q1p (Q0h (show AtW w _ _ _ from s1)) (Q3s))) hS ?_; clear hr; intro a32 hr hd hs
  revert s38; revert s37; revert s6; revert s7; revert s4; revert s1; refine kp6 hs rfl ?_; intro s1 s4 s7 s6 s37 s38
  revert s42; revert s41; revert s40; revert s39; refine kp4 hs rfl ?_; intro s39 s40 s41 s42
  have s43 := AtW.base hd
  clear hd hs
  refine Q0n (i := 7) hr rfl (by decide) (by kernel_rfl) (fun _ _ _ _ h => h) (yh (Q1p (Q8s (13) tu22 Q0s s43 (ec a32 (.int .i64 13)) (by omega)) (Qfz (i := 13) tu22 Q0s (Q00 e_w s43) (ec a32 (.int .i64 13)) (by omega)))) hS ?_; clear hr; intro a33 hr hd hs
  revert s38; revert s37; revert s6; revert s7; revert s4; revert s1; refine kp6 hs rfl ?_; intro s1 s4 s7 s6 s37 s38
  revert s43; revert s42; revert s41; revert s40; revert s39; refine kp5 hs rfl ?_; intro s39 s40 s41 s42 s43
  have s44 := hd
  clear hd hs
  refine Q0n (i := 8) hr rfl (by decide) (by kernel_rfl) (fun _ _ _ _ h => h) (Qfu tu5 rfl s44 (fun _ h => h)) hS ?_; clear hr; intro a34 hr hd hs
  revert s38; revert s37; revert s6; revert s7; revert s4; revert s1; refine kp6 hs rfl ?_; intro s1 s4 s7 s6 s37 s38
  revert s44; revert s43; revert s42; revert s41; revert s40; revert s39; refine kp6 hs rfl ?_; intro s39 s40 s41 s42 s43 s44
  have s45 := hd
  clear hd hs
  refine Q0n (i := 9) hr rfl (by decide) (by kernel_rfl) (fun _ _ _ _ h => h) (yh (Q1p (Qet 6 (by decide) s45 (ec a34 (.int .u8 63)) (by decide) (by exact Qjs _)) (Qfv (by simp) s45 (ec a34 (.int .u8 63)) rfl))) hS ?_; clear hr; intro a35 hr hd hs
  revert s38; revert s37; revert s6; revert s7; revert s4; revert s1; refine kp6 hs rfl ?_; intro s1 s4 s7 s6 s37 s38
  revert s44; revert s43; revert s42; revert s41; revert s40; revert s39; refine kp6 hs rfl ?_; intro s39 s40 s41 s42 s43 s44
  revert s45; refine kp1 hs rfl ?_; intro s45
  have s46 := hd
  clear hd hs
  refine Q0n (i := 10) hr rfl (by decide) (by kernel_rfl) (fun _ _ _ _ h => h) (yh (Q1p (Q2d tu5 tu3 (by exact IntWalk.i64_in _ (by omega)) s46) (Qib tu5 tu3 s46))) hS ?_; clear hr; intro a36 hr hd hs
  revert s38; revert s37; revert s6; revert s7; revert s4; revert s1; refine kp6 hs rfl ?_; intro s1 s4 s7 s6 s37 s38
  revert s44; revert s43; revert s42; revert s41; revert s40; revert s39; refine kp6 hs rfl ?_; intro s39 s40 s41 s42 s43 s44
  revert s46; revert s45; refine kp2 hs rfl ?_; intro s45 s46
  have s47 := hd
  clear hd hs
  refine Q0n (i := 11) hr rfl (by decide) (by kernel_rfl) (fun _ _ _ _ h => h) (yh (Q1p (Q02 3 tu66 (k := 3) rfl Q0m rfl (Q00 e_w21 s7) rfl) (Q42 tu66 (k := 3) rfl Q0m rfl (PxS.cells (Q00 e_w21 s7))))) hS ?_; clear hr; intro a37 hr hd hs
  revert s38; revert s37; revert s6; revert s7; revert s4; revert s1; refine kp6 hs rfl ?_; intro s1 s4 s7 s6 s37 s38
  revert s44; revert s43; revert s42; revert s41; revert s40; revert s39; refine kp6 hs rfl ?_; intro s39 s40 s41 s42 s43 s44
  revert s47; revert s46; revert s45; refine kp3 hs rfl ?_; intro s45 s46 s47
  have s48 := hd
  clear hd hs
  clear hS
  have z38 := PxS.lt s48
  have l38 := (show (g20_7 = 0 ∨ w.heap.size < g20_7) ∧ True from ⟨by omega, trivial⟩)
  have l38_4 := PxS.lt (Q00 e_w21 s4)
  refine Q9k (i := 12) rfl (by kernel_rfl) (fun w' hc => e_w.below (Nat.le_refl _) (hc.below e_w.size l38.1)) hr Q0m s48 s42 (by rfl) rfl ?_; clear hr; intro a38 w38 hc hu hr hs hS
  have hb : Below w.heap.size w25 w38 := hc.below e_w.size l38.1
  revert s47; revert s6; revert s7; revert s4; revert s1; refine kp5 hs rfl ?_; intro s1 s4 s7 s6 s47
  clear s37 s38 s39 s40 s41 s42 s43 s44 s45 s46 s48
  replace s4 := PxS.other (Q00 e_w21 s4) hc (by omega)
  replace s7 := hu _ _ _ (Q00 e_w21 s7)
  try simp only [List.set_cons_zero, List.set_cons_succ, Q2q] at s7
  replace e_w := e_w.below (Nat.le_refl _) hb
  clear e_w21
  replace s6 := anyw (w2 := w38) s6
  replace s47 := anyw (w2 := w38) s47
  clear hu hs hc hb
  refine Q0n (i := 13) hr rfl (by decide) (by kernel_rfl) (fun _ _ _ _ h => h) (yh (Q1p (Q02 2 tu66 (k := 2) rfl Q0m rfl s7 rfl) (Q42 tu66 (k := 2) rfl Q0m rfl (PxS.cells s7)))) hS ?_; clear hr; intro a39 hr hd hs
  revert s47; revert s6; revert s7; revert s4; revert s1; refine kp5 hs rfl ?_; intro s1 s4 s7 s6 s47
  have s49 := hd
  clear hd hs
  clear hS
  have z40 := PxS.lt s49
  have l40 := (show (g20_7 = 0 ∨ w.heap.size < g20_7) ∧ True from ⟨by omega, trivial⟩)
  have l40_4 := PxS.lt s4
  refine Q9k (i := 14) rfl (by kernel_rfl) (fun w' hc => e_w.below (Nat.le_refl _) (hc.below e_w.size l40.1)) hr Q0m s49 s47 (by rfl) rfl ?_; clear hr; intro a40 w40 hc hu hr hs hS
  have hb : Below w.heap.size w38 w40 := hc.below e_w.size l40.1
  revert s6; revert s7; revert s4; revert s1; refine kp4 hs rfl ?_; intro s1 s4 s7 s6
  clear s47 s49
  replace s4 := PxS.other s4 hc (by omega)
  replace s7 := hu _ _ _ s7
  try simp only [List.set_cons_zero, List.set_cons_succ, Q2q] at s7
  replace e_w := e_w.below (Nat.le_refl _) hb
  replace s6 := anyw (w2 := w40) s6
  clear hu hs hc hb
  refine Q44 (by kernel_rfl) ?_
  replace s7 := PxS.cast s7 (show _ = Q2q ⟨Q07 l 0, Q07 l 2, Q09 l 13 % 64, Q09 l 12 / 16 * 4, (l.length : Int)⟩ from by rw [e12, e13]; rfl)
  refine es ?_
  refine wp_block ?_
  refine sq ?_
  refine sq ?_
  refine Q04 75 [[(6, none)], [(54, some 0)], [(7, none), (55, some 1)], [(56, some 2), (55, some 1)], [(57, some 3), (55, some 1)], [(55, some 1), (58, some 4)], [(59, some 5)]] [?b41_0, ?b41_0, ?b41_2, ?b41_3, ?b41_4, ?b41_5, ?b41_5] Q08 hr ?t41 ?o41 ?_
  case o41 =>
   apply oc0; intro A W hx hf
   exact Q01 (a0 := a40) (r0 hf)
   apply oc0; intro A W hx hf
   exact Q0h (q0 ?b41_0 A W 54 hf)
   refine ocg 55 ?_ (fun A W hx hf => ?_) ?_
   rfl
   exact gd_t (p1 s6 hx (q1 ?b41_0 A W 55 hf)) (fun hc => Q02 3 tu66 (k := 3) rfl Q0m rfl (o1 s7 hx (r0 hf)) rfl)
   refine ocg 55 ?_ (fun A W hx hf => ?_) ?_
   rfl
   exact gd_t (p1 s6 hx (q1 ?b41_0 A W 55 hf)) (fun hc => Q0a tu3 rfl (G.get (q0 ?b41_2 A W 56 hf) hc) rfl)
   refine ocg 55 ?_ (fun A W hx hf => ?_) ?_
   rfl
   exact gd_t (p1 s6 hx (q1 ?b41_0 A W 55 hf)) (fun hc => Q1b (G.get (q0 ?b41_3 A W 57 hf) hc) (ec A (.int .i64 20)))
   apply oc0; intro A W hx hf
   exact Q2p (p1 s6 hx (q0 ?b41_0 A W 55 hf)) (q1 ?b41_4 A W 58 hf)
   apply oc0; intro A W hx hf
   exact Q03 (q0 ?b41_5 A W 59 hf)
   exact onn
  case t41 => exact inferInstance
  clear hr; intro a42 w42 x hr hd hs
  revert s7; revert s4; revert s1; refine kp3 hs rfl ?_; intro s1 s4 s7
  clear s6
  have s53 := fa ?b41_5 a42 w42 53 (hd 6 53 rfl)
  replace e_w := e_w.trans x
  have e_w40 := x; clear hd hs x
  refine et ?_
  refine Q33 (fun A W => Fr 75 A ∧ Same Q6o a42 A ∧ Ext w W ∧ (Is (.bool (decide (Q09 l 12 / 16 * 4 < 20)))) (A.eval (.tmp 53)) W ∧ (PxS g2_4 w.heap.size [5] [(Q2q Q2z).flatten] 0) (A.eval (.tmp 4)) W ∧ (PxS g20_7 w.heap.size [1, 1, 1, 1, 1] (Q2q ⟨Q07 l 0, Q07 l 2, Q09 l 13 % 64, Q09 l 12 / 16 * 4, (l.length : Int)⟩) 0) (A.eval (.tmp 7)) W) ?cut43 ?_
  case cut43 =>
   have m43 : Same Q6o a42 a42 := Same.rfl
   refine wp_cond_split (show _ = _ from s53) (fun hh0 => ?_) (fun hh0 => ?_)
   ·
    skip
    refine wp_skip ?_
    refine et ?_
    refine ⟨hr, m43, e_w, ?_, ?_, ?_⟩
    · refine Is.bool s53 ?_; first | (simp; done) | (rw [decide_eq_false hh0]; exact decide_eq_false (show ¬ (l.length : Int) < 8 from by omega))
    · exact (Q00 e_w40 s4)
    · exact (Q00 e_w40 s7)
   have hh0 : ¬ Q09 l 12 / 16 * 4 < 20 := by simpa using hh0
   refine Q04 75 [[(7, none)], [(60, some 0)], [(61, some 1)], [(62, some 2)]] [?b45_0, ?b45_1, ?b45_2, ?b45_2] Q08 hr ?t45 ?o45 ?_
   case o45 =>
    apply oc0; intro A W hx hf
    exact Q02 4 tu66 (k := 4) rfl Q0m rfl (o2 s7 e_w40 hx (r0 hf)) rfl
    apply oc0; intro A W hx hf
    exact Q0a tu3 rfl (q0 ?b45_0 A W 60 hf) rfl
    apply oc0; intro A W hx hf
    exact Q1b (q0 ?b45_1 A W 61 hf) (ec A (.int .i64 8))
    apply oc0; intro A W hx hf
    exact Q03 (q0 ?b45_2 A W 62 hf)
    exact onn
   case t45 => exact inferInstance
   clear hr; intro a46 w46 x hr hd hs
   revert s7; revert s4; revert s1; refine kp3 hs rfl ?_; intro s1 s4 s7
   clear s53
   have s53 := fa ?b45_2 a46 w46 53 (hd 3 53 rfl)
   replace e_w := e_w.trans x
   replace e_w40 := e_w40.trans x
   replace m43 := m43.tr hs rfl; clear hd hs x
   refine et ?_
   refine ⟨hr, m43, e_w, ?_, ?_, ?_⟩
   · refine Is.bool s53 ?_; first | (simp; done) | (rw [decide_eq_false hh0]; exact decide_eq_false (show ¬ (l.length : Int) < 8 from by omega))
   · exact (Q00 e_w40 s4)
   · exact (Q00 e_w40 s7)
  intro a43 w43 hI
  clear e_w
  clear e_w40
  clear hr; obtain ⟨hr, hs, e_w, u53, u4, u7⟩ := hI
  revert s1; refine kp1 hs rfl ?_; intro s1
  clear s4 s7 s53
  have s53 := u53; clear u53
  have s4 := u4; clear u4
  have s7 := u7; clear u7
  clear hs
  refine wp_cond_split (show _ = _ from s53) (fun hh => ?_) (fun hh => ?_)
  ·
   have hh : Q09 l 12 / 16 * 4 < 20 := of_decide_eq_true hh
   have hrd : Q24 l = (Q2z, 3) := by unfold Q24; rw [if_neg hl, if_pos hh]
   refine sq ?_
   refine Q06 (l := [_]) (rest := [_, _]) 75 [[]] [?b48_0] hr ?t48 ?o48 ?_
   case o48 =>
    apply oc0; intro A W hx hf
    exact Q13 Q3t
    exact onn
   case t48 => exact inferInstance
   clear hr; intro a49 w49 x hr hd hs
   revert s4; refine kp1 hs rfl ?_; intro s4
   clear s1 s53 s7
   have s63 := fa ?b48_0 a49 w49 63 (hd 0 63 rfl)
   replace e_w := e_w.trans x
   have e_w43 := x; clear hd hs x
   have z50 := PxS.lt (Q00 e_w43 s4)
   have l50 := (show (g2_4 = 0 ∨ w.heap.size < g2_4) ∧ True from ⟨by omega, trivial⟩)
   refine Q0k hr Q1j (Q00 e_w43 s4) s63 (by exact Q2b _) (by exact Q1r) rfl ?_; clear hr; intro a50 w50 hc hu hr hs
   have hb : Below w.heap.size w49 w50 := hc.below e_w.size l50.1
   revert s4; refine kp1 hs rfl ?_; intro s4
   clear s63
   replace s4 := hu _ _ _ (Q00 e_w43 s4)
   try simp only [List.set_cons_zero, List.set_cons_succ, Q2q] at s4
   replace e_w := e_w.below (Nat.le_refl _) hb
   clear e_w43
   clear hu hs hc hb
   refine Q11 hr (Q05) inferInstance ?_; clear hr; intro a51 w51 x hr hd hs
   revert s4; refine kp1 hs rfl ?_; intro s4
   have s5 := hd 5 rfl (by decide)
   replace e_w := e_w.trans x
   have e_w50 := x; clear hd hs x
   refine wpList_nil ?_
   refine et ?_
   refine wp_ret ?_
   refine Q1t ?_
   refine Q0e ?_
   refine Q0f Try.results61 hr tu66 rfl Q1j (Q00 e_w50 s4) e_w ?_
   (rw [hrd]; exact ⟨_, _, rfl, rfl, s5⟩)
  have hh : ¬ Q09 l 12 / 16 * 4 < 20 := of_decide_eq_false hh
  refine sq ?_
  refine Q04 75 [[(7, none)], [(65, some 0)], [(7, none)], [(67, some 2)], [(66, some 1), (68, some 3)], [(1, none)], [(70, some 5)], [(69, some 4), (71, some 6)], [(72, some 7)]] [?b52_0, ?b52_1, ?b52_2, ?b52_3, ?b52_4, ?b52_5, ?b52_6, ?b52_7, ?b52_7] Q08 hr ?t52 ?o52 ?_
  case o52 =>
   apply oc0; intro A W hx hf
   exact Q02 3 tu66 (k := 3) rfl Q0m rfl (o1 s7 hx (r0 hf)) rfl
   apply oc0; intro A W hx hf
   exact Q0a tu3 rfl (q0 ?b52_0 A W 65 hf) rfl
   apply oc0; intro A W hx hf
   exact Q02 4 tu66 (k := 4) rfl Q0m rfl (o1 s7 hx (r0 hf)) rfl
   apply oc0; intro A W hx hf
   exact Q0a tu3 rfl (q0 ?b52_2 A W 67 hf) rfl
   apply oc0; intro A W hx hf
   exact Qbl (q0 ?b52_1 A W 66 hf) (q1 ?b52_3 A W 68 hf)
   apply oc0; intro A W hx hf
   exact Q01 (a0 := a43) (r0 hf)
   apply oc0; intro A W hx hf
   exact Q0v tu22 (p2 s1 e_w hx (q0 ?b52_5 A W 70 hf))
   apply oc0; intro A W hx hf
   exact Q3m (q0 ?b52_4 A W 69 hf) (q1 ?b52_6 A W 71 hf)
   apply oc0; intro A W hx hf
   exact Q03 (q0 ?b52_7 A W 72 hf)
   exact onn
  case t52 => exact inferInstance
  clear hr; intro a53 w53 x hr hd hs
  revert s7; revert s4; refine kp2 hs rfl ?_; intro s4 s7
  clear s1 s53
  have s64 := fa ?b52_7 a53 w53 64 (hd 8 64 rfl)
  replace e_w := e_w.trans x
  have e_w43 := x; clear hd hs x
  refine et ?_
  refine wp_cond_split (show _ = _ from s64) (fun ht => ?_) (fun ht => ?_)
  ·
   have ht : Q09 l 12 / 16 * 4 > (l.length : Int) := Qo7 ht
   have hrd : Q24 l = (Q2z, 2) := by unfold Q24; rw [if_neg hl, if_neg hh, if_pos ht]
   refine sq ?_
   refine Q06 (l := [_]) (rest := [_, _]) 75 [[]] [?b55_0] hr ?t55 ?o55 ?_
   case o55 =>
    apply oc0; intro A W hx hf
    exact Q13 Q3t
    exact onn
   case t55 => exact inferInstance
   clear hr; intro a56 w56 x hr hd hs
   revert s4; refine kp1 hs rfl ?_; intro s4
   clear s7 s64
   have s73 := fa ?b55_0 a56 w56 73 (hd 0 73 rfl)
   replace e_w := e_w.trans x
   replace e_w43 := e_w43.trans x; clear hd hs x
   have z57 := PxS.lt (Q00 e_w43 s4)
   have l57 := (show (g2_4 = 0 ∨ w.heap.size < g2_4) ∧ True from ⟨by omega, trivial⟩)
   refine Q0k hr Q1j (Q00 e_w43 s4) s73 (by exact Q2b _) (by exact Q1r) rfl ?_; clear hr; intro a57 w57 hc hu hr hs
   have hb : Below w.heap.size w56 w57 := hc.below e_w.size l57.1
   revert s4; refine kp1 hs rfl ?_; intro s4
   clear s73
   replace s4 := hu _ _ _ (Q00 e_w43 s4)
   try simp only [List.set_cons_zero, List.set_cons_succ, Q2q] at s4
   replace e_w := e_w.below (Nat.le_refl _) hb
   clear e_w43
   clear hu hs hc hb
   refine Q11 hr (Q05) inferInstance ?_; clear hr; intro a58 w58 x hr hd hs
   revert s4; refine kp1 hs rfl ?_; intro s4
   have s5 := hd 5 rfl (by decide)
   replace e_w := e_w.trans x
   have e_w57 := x; clear hd hs x
   refine wpList_nil ?_
   refine et ?_
   refine wp_ret ?_
   refine Q1t ?_
   refine Q0e ?_
   refine Q0f Try.results61 hr tu66 rfl Q1j (Q00 e_w57 s4) e_w ?_
   (rw [hrd]; exact ⟨_, _, rfl, rfl, s5⟩)
  have ht : ¬ Q09 l 12 / 16 * 4 > (l.length : Int) := Qo8 ht
  have hrd : Q24 l = (⟨Q07 l 0, Q07 l 2, Q09 l 13 % 64, Q09 l 12 / 16 * 4, (l.length : Int)⟩, 0) := by unfold Q24; rw [if_neg hl, if_neg hh, if_neg ht]
  refine wp_skip ?_
  refine Q0x ?_
  refine es ?_
  refine Q06 (l := [_]) (rest := [_, _]) 75 [[(7, none)]] [?b59_0] hr ?t59 ?o59 ?_
  case o59 =>
   apply oc0; intro A W hx hf
   exact Q0b 5 tu66 rfl Q1j (o2 s7 e_w43 hx (r0 hf)) rfl
   exact onn
  case t59 => exact inferInstance
  clear hr; intro a60 w60 x hr hd hs
  revert s4; refine kp1 hs rfl ?_; intro s4
  clear s7 s64
  have s74 := fa ?b59_0 a60 w60 74 (hd 0 74 rfl)
  replace e_w := e_w.trans x
  replace e_w43 := e_w43.trans x; clear hd hs x
  have z61 := PxS.lt (Q00 e_w43 s4)
  have l61 := (show (g2_4 = 0 ∨ w.heap.size < g2_4) ∧ True from ⟨by omega, trivial⟩)
  refine Q0k hr Q1j (Q00 e_w43 s4) (show Is (Qcd ⟨Q07 l 0, Q07 l 2, Q09 l 13 % 64, Q09 l 12 / 16 * 4, (l.length : Int)⟩) _ _ from s74) (by exact Q2b _) (by exact Q1r) rfl ?_; clear hr; intro a61 w61 hc hu hr hs
  have hb : Below w.heap.size w60 w61 := hc.below e_w.size l61.1
  revert s4; refine kp1 hs rfl ?_; intro s4
  clear s74
  replace s4 := hu _ _ _ (Q00 e_w43 s4)
  try simp only [List.set_cons_zero, List.set_cons_succ, Q2q] at s4
  replace e_w := e_w.below (Nat.le_refl _) hb
  clear e_w43
  clear hu hs hc hb
  refine Q11 hr (Q05) inferInstance ?_; clear hr; intro a62 w62 x hr hd hs
  revert s4; refine kp1 hs rfl ?_; intro s4
  have s5 := hd 5 rfl (by decide)
  replace e_w := e_w.trans x
  have e_w61 := x; clear hd hs x
  refine wpList_nil ?_
  refine et ?_
  refine wp_ret ?_
  refine Q0f Try.results61 hr tu66 rfl Q1j (Q00 e_w61 s4) e_w ?_
  (rw [hrd]; exact ⟨_, _, rfl, rfl, s5⟩)
 exfalso; simp at hd9

theorem Qf9 {x0 x1 : Value} {w : World} {l : List UInt8} (h0 : (Is (.int .i64 17)) x0 w) (h1 : (Bs l) x1 w)  :
    Calls Try.prog 61 #[x0, x1] w (Ret (Tup2 (Is (Qcd (Q25 l).1)) (Is (.int .i64 (Q25 l).2))) w) := by
 have hlen := Bs.len_le h1
 refine enter Try.func61 rfl Try.ntmps61 (k := 2) rfl (by decide) (fun a0 hr hargs => ?_)
 have s0 := sarg h0 (hargs 0 (by decide))
 have s1 := sarg h1 (hargs 1 (by decide))
 clear hargs
 refine sq ?_
 refine Q04 75 [[], []] [?b1_0, ?b1_1] Q08 hr ?t1 ?o1 ?_
 case o1 =>
  apply oc0; intro A W hx hf
  exact Q0y [(Q2q Q2z).flatten] [5] Q5o (by rfl) (by rfl) hx.size
  apply oc0; intro A W hx hf
  exact Q05
  exact onn
 case t1 => exact inferInstance
 clear hr; intro a2 w2 x hr hd hs
 revert s1; revert s0; refine kp2 hs rfl ?_; intro s0 s1
 have s4 := fa ?b1_0 a2 w2 4 (hd 0 4 rfl)
 obtain ⟨g2_4, q2_4⟩ := PxN.at s4; clear s4; have n2_4 := PxS.lt q2_4
 have s4 := q2_4; clear q2_4
 have e_w := x; clear hd hs x
 refine es ?_
 refine Q04 75 [[(0, none)], [(8, some 0)], [(9, some 1)]] [?b3_0, ?b3_1, ?b3_1] Q08 hr ?t3 ?o3 ?_
 case o3 =>
  apply oc0; intro A W hx hf
  exact Q01 (a0 := a2) (r0 hf)
  apply oc0; intro A W hx hf
  exact Q1i (p2 s0 e_w hx (q0 ?b3_0 A W 8 hf)) (ec A (.int .i64 6))
  apply oc0; intro A W hx hf
  exact Q03 (q0 ?b3_1 A W 9 hf)
  exact onn
 case t3 => exact inferInstance
 clear hr; intro a4 w4 x hr hd hs
 revert s4; revert s1; revert s0; refine kp3 hs rfl ?_; intro s0 s1 s4
 have s6 := fa ?b3_1 a4 w4 6 (hd 2 6 rfl)
 replace e_w := e_w.trans x
 have e_w2 := x; clear hd hs x
 refine es ?_
 refine wp_block ?_
 refine sq ?_
 refine Q04 75 [[(6, none)], [(11, some 0)], [(12, some 1)], [(0, none), (13, some 2)], [(14, some 3), (13, some 2)], [(13, some 2), (15, some 4)], [(16, some 5)]] [?b5_0, ?b5_1, ?b5_1, ?b5_3, ?b5_4, ?b5_5, ?b5_5] Q08 hr ?t5 ?o5 ?_
 case o5 =>
  apply oc0; intro A W hx hf
  exact Q01 (a0 := a4) (r0 hf)
  apply oc0; intro A W hx hf
  exact Q43 (p1 s6 hx (q0 ?b5_0 A W 11 hf))
  apply oc0; intro A W hx hf
  exact Q0h (q0 ?b5_1 A W 12 hf)
  refine ocg 13 ?_ (fun A W hx hf => ?_) ?_
  rfl
  exact gd_t (q1 ?b5_1 A W 13 hf) (fun hc => Q01 (a0 := a4) (r0 hf))
  refine ocg 13 ?_ (fun A W hx hf => ?_) ?_
  rfl
  exact gd_t (q1 ?b5_1 A W 13 hf) (fun hc => Q48 (p2 s0 e_w hx (G.get (q0 ?b5_3 A W 14 hf) hc)) (ec A (.int .i64 17)))
  apply oc0; intro A W hx hf
  exact Q2p (q0 ?b5_1 A W 13 hf) (q1 ?b5_4 A W 15 hf)
  apply oc0; intro A W hx hf
  exact Q03 (q0 ?b5_5 A W 16 hf)
  exact onn
 case t5 => exact inferInstance
 clear hr; intro a6 w6 x hr hd hs
 revert s6; revert s4; revert s1; refine kp3 hs rfl ?_; intro s1 s4 s6
 clear s0
 have s10 := fa ?b5_5 a6 w6 10 (hd 6 10 rfl)
 replace e_w := e_w.trans x
 replace e_w2 := e_w2.trans x
 have e_w4 := x; clear hd hs x
 refine et ?_
 refine wp_cond_split (show _ = _ from s10) (fun hd9 => ?_) (fun hd9 => ?_)
 ·
  exfalso; simp at hd9
 skip
 refine sq ?_
 refine sq ?_
 refine Q04 75 [[(6, none)], [(19, some 0)], [(1, none), (20, some 1)], [(21, some 2), (20, some 1)], [(22, some 3), (20, some 1)], [(20, some 1), (23, some 4)], [(24, some 5)]] [?b8_0, ?b8_0, ?b8_2, ?b8_3, ?b8_4, ?b8_5, ?b8_5] Q08 hr ?t8 ?o8 ?_
 case o8 =>
  apply oc0; intro A W hx hf
  exact Q01 (a0 := a6) (r0 hf)
  apply oc0; intro A W hx hf
  exact Q0h (q0 ?b8_0 A W 19 hf)
  refine ocg 20 ?_ (fun A W hx hf => ?_) ?_
  rfl
  exact gd_t (p2 s6 e_w4 hx (q1 ?b8_0 A W 20 hf)) (fun hc => Q01 (a0 := a6) (r0 hf))
  refine ocg 20 ?_ (fun A W hx hf => ?_) ?_
  rfl
  exact gd_t (p2 s6 e_w4 hx (q1 ?b8_0 A W 20 hf)) (fun hc => Q0v tu22 (p2 s1 e_w hx (G.get (q0 ?b8_2 A W 21 hf) hc)))
  refine ocg 20 ?_ (fun A W hx hf => ?_) ?_
  rfl
  exact gd_t (p2 s6 e_w4 hx (q1 ?b8_0 A W 20 hf)) (fun hc => Q1b (G.get (q0 ?b8_3 A W 22 hf) hc) (ec A (.int .i64 20)))
  apply oc0; intro A W hx hf
  exact Q2p (p2 s6 e_w4 hx (q0 ?b8_0 A W 20 hf)) (q1 ?b8_4 A W 23 hf)
  apply oc0; intro A W hx hf
  exact Q03 (q0 ?b8_5 A W 24 hf)
  exact onn
 case t8 => exact inferInstance
 clear hr; intro a9 w9 x hr hd hs
 revert s6; revert s4; revert s1; refine kp3 hs rfl ?_; intro s1 s4 s6
 clear s10
 have s18 := fa ?b8_5 a9 w9 18 (hd 6 18 rfl)
 replace e_w := e_w.trans x
 replace e_w2 := e_w2.trans x
 replace e_w4 := e_w4.trans x; clear hd hs x
 refine et ?_
 refine wp_cond_split (show _ = _ from s18) (fun hd9 => ?_) (fun hd9 => ?_)
 ·
  exfalso; simp at hd9
 skip
 refine Q04 75 [[(1, none)], [(25, some 0)], [(26, some 1)], [(27, some 2)]] [?b11_0, ?b11_1, ?b11_2, ?b11_2] Q08 hr ?t11 ?o11 ?_
 case o11 =>
  apply oc0; intro A W hx hf
  exact Q01 (a0 := a9) (r0 hf)
  apply oc0; intro A W hx hf
  exact Q0v tu22 (p2 s1 e_w hx (q0 ?b11_0 A W 25 hf))
  apply oc0; intro A W hx hf
  exact Q1b (q0 ?b11_1 A W 26 hf) (ec A (.int .i64 8))
  apply oc0; intro A W hx hf
  exact Q03 (q0 ?b11_2 A W 27 hf)
  exact onn
 case t11 => exact inferInstance
 clear hr; intro a12 w12 x hr hd hs
 revert s6; revert s4; revert s1; refine kp3 hs rfl ?_; intro s1 s4 s6
 clear s18
 have s18 := fa ?b11_2 a12 w12 18 (hd 3 18 rfl)
 replace e_w := e_w.trans x
 replace e_w2 := e_w2.trans x
 replace e_w4 := e_w4.trans x; clear hd hs x
 refine et ?_
 refine wp_cond_split (show _ = _ from s18) (fun hl => ?_) (fun hl => ?_)
 ·
  have hl : l.length < 8 := by simp at hl; omega
  have hrd : Q25 l = (Q2z, 2) := by unfold Q25; rw [if_pos hl]
  refine sq ?_
  refine Q06 (l := [_]) (rest := [_, _]) 75 [[]] [?b14_0] hr ?t14 ?o14 ?_
  case o14 =>
   apply oc0; intro A W hx hf
   exact Q13 Q3t
   exact onn
  case t14 => exact inferInstance
  clear hr; intro a15 w15 x hr hd hs
  revert s4; refine kp1 hs rfl ?_; intro s4
  clear s1 s6 s18
  have s28 := fa ?b14_0 a15 w15 28 (hd 0 28 rfl)
  replace e_w := e_w.trans x
  replace e_w2 := e_w2.trans x
  clear e_w4; clear hd hs x
  have z16 := PxS.lt (Q00 e_w2 s4)
  have l16 := (show (g2_4 = 0 ∨ w.heap.size < g2_4) ∧ True from ⟨by omega, trivial⟩)
  refine Q0k hr Q1j (Q00 e_w2 s4) s28 (by exact Q2b _) (by exact Q1r) rfl ?_; clear hr; intro a16 w16 hc hu hr hs
  have hb : Below w.heap.size w15 w16 := hc.below e_w.size l16.1
  revert s4; refine kp1 hs rfl ?_; intro s4
  clear s28
  replace s4 := hu _ _ _ (Q00 e_w2 s4)
  try simp only [List.set_cons_zero, List.set_cons_succ, Q2q] at s4
  replace e_w := e_w.below (Nat.le_refl _) hb
  clear e_w2
  clear hu hs hc hb
  refine Q11 hr (Q05) inferInstance ?_; clear hr; intro a17 w17 x hr hd hs
  revert s4; refine kp1 hs rfl ?_; intro s4
  have s5 := hd 5 rfl (by decide)
  replace e_w := e_w.trans x
  have e_w16 := x; clear hd hs x
  refine wpList_nil ?_
  refine et ?_
  refine wp_ret ?_
  refine Q1t ?_
  refine Q0e ?_
  refine Q0f Try.results61 hr tu66 rfl Q1j (Q00 e_w16 s4) e_w ?_
  (rw [hrd]; exact ⟨_, _, rfl, rfl, s5⟩)
 have hl : ¬ l.length < 8 := by simp at hl; omega
 refine wp_skip ?_
 refine Q0x ?_
 refine es ?_
 refine Q06 (l := [_, _, _, _, _, _, _, _]) (rest := [_]) 75 [[(1, none)], [(29, some 0)], [(1, none)], [(31, some 2)], [(1, none)], [(33, some 4)], [(30, some 1), (32, some 3), (34, some 5)], []] [?b18_0, ?b18_1, ?b18_2, ?b18_3, ?b18_4, ?b18_5, ?b18_6, ?b18_7] hr ?t18 ?o18 ?_
 case o18 =>
  apply oc0; intro A W hx hf
  exact Q01 (a0 := a12) (r0 hf)
  apply oc0; intro A W hx hf
  exact Q0p Qdd (Qe1 (p2 s1 e_w hx (q0 ?b18_0 A W 29 hf)) (show Is (.int .i64 0) (A.eval (.const (.int .i64 0))) _ from rfl) (by decide) (by first | omega | (show 2 ≤ _; omega) | (show 4 ≤ _; omega) | (show 6 ≤ _; omega) | (show 8 ≤ _; omega)))
  apply oc0; intro A W hx hf
  exact Q01 (a0 := a12) (r0 hf)
  apply oc0; intro A W hx hf
  exact Q0p Qdd (Qe1 (p2 s1 e_w hx (q0 ?b18_2 A W 31 hf)) (show Is (.int .i64 2) (A.eval (.const (.int .i64 2))) _ from rfl) (by decide) (by first | omega | (show 2 ≤ _; omega) | (show 4 ≤ _; omega) | (show 6 ≤ _; omega) | (show 8 ≤ _; omega)))
  apply oc0; intro A W hx hf
  exact Q01 (a0 := a12) (r0 hf)
  apply oc0; intro A W hx hf
  exact Q0v tu22 (p2 s1 e_w hx (q0 ?b18_4 A W 33 hf))
  apply oc0; intro A W hx hf
  exact Q1e [(0, (.tmp 30)), (1, (.tmp 32)), (3, (.const (.int .i64 8))), (4, (.tmp 34))] [(0, _), (1, _), (3, _), (4, _)] Ql5 rfl (PartsC.one (q0 ?b18_1 A W 30 hf) rfl (PartsC.one (q1 ?b18_3 A W 32 hf) rfl (PartsC.one (ec A (.int .i64 8)) rfl (PartsC.one (q2 ?b18_5 A W 34 hf) rfl (PartsC.nil))))) (by first | rfl | simp [Q0l, *])
  apply oc0; intro A W hx hf
  exact Q0y (Q2q Q2z) [1, 1, 1, 1, 1] Q5o (by rfl) (by rfl) hx.size
  exact onn
 case t18 => exact inferInstance
 clear hr; intro a19 w19 x hr hd hs
 have z_w_w12 := e_w.size
 have z_w2_w12 := e_w2.size
 have z_w4_w12 := e_w4.size
 have l19_4 := PxS.lt (Q00 e_w2 s4)
 revert s6; revert s4; revert s1; refine kp3 hs rfl ?_; intro s1 s4 s6
 clear s18
 have s35 := fa ?b18_6 a19 w19 35 (hd 6 35 rfl)
 have s7 := fa ?b18_7 a19 w19 7 (hd 7 7 rfl)
 obtain ⟨g19_7, q19_7⟩ := PxN.at s7; clear s7; have n19_7 := PxS.lt q19_7
 replace q19_7 := PxS.mono q19_7 e_w.size
 have s7 := q19_7; clear q19_7
 replace e_w := e_w.trans x
 replace e_w2 := e_w2.trans x
 replace e_w4 := e_w4.trans x; clear hd hs x
 have z20 := PxS.lt s7
 have l20 := (show (g19_7 = 0 ∨ w.heap.size < g19_7) ∧ True from ⟨by omega, trivial⟩)
 have l20_4 := PxS.lt (Q00 e_w2 s4)
 refine Q19 (Q2q ⟨Q07 l 0, Q07 l 2, 0, 8, (l.length : Int)⟩) hr Q1j s7 s35 (by rfl) (by exact Q1r) rfl ?_; clear hr; intro a20 w20 hc hu hr hs
 have hb : Below w.heap.size w19 w20 := hc.below e_w.size l20.1
 revert s7; revert s6; revert s4; revert s1; refine kp4 hs rfl ?_; intro s1 s4 s6 s7
 clear s35
 replace s4 := PxS.other (Q00 e_w2 s4) hc (by omega)
 replace s7 := hu _ _ _ s7
 try simp only [List.set_cons_zero, List.set_cons_succ, Q2q] at s7
 replace e_w := e_w.below (Nat.le_refl _) hb
 clear e_w2
 clear e_w4
 replace s6 := anyw (w2 := w20) s6
 clear hu hs hc hb
 refine wpList_nil ?_
 refine es ?_
 refine sq ?_
 refine Q04 75 [[(6, none)]] [?b21_0] Q08 hr ?t21 ?o21 ?_
 case o21 =>
  apply oc0; intro A W hx hf
  exact Q01 (a0 := a20) (r0 hf)
  exact onn
 case t21 => exact inferInstance
 clear hr; intro a22 w22 x hr hd hs
 have u36 := mv s6 (fa ?b21_0 a22 w22 36 (hd 0 36 rfl))
 revert s6; revert s7; revert s4; revert s1; refine kp4 hs rfl ?_; intro s1 s4 s7 s6
 have s36 := u36; clear u36
 replace e_w := e_w.trans x
 have e_w20 := x; clear hd hs x
 refine et ?_
 refine wp_cond_split (show _ = _ from s36) (fun hd9 => ?_) (fun hd9 => ?_)
 ·
  exfalso; simp at hd9
 skip
 refine Q06 (l := [_, _, _]) (rest := [_]) 75 [[(1, none)], [(50, some 0)], [(7, none)]] [?b24_0, ?b24_1, ?b24_2] hr ?t24 ?o24 ?_
 case o24 =>
  apply oc0; intro A W hx hf
  exact Q01 (a0 := a22) (r0 hf)
  apply oc0; intro A W hx hf
  exact Q0p Qdd (Qe1 (p2 s1 e_w hx (q0 ?b24_0 A W 50 hf)) (show Is (.int .i64 4) (A.eval (.const (.int .i64 4))) _ from rfl) (by decide) (by first | omega | (show 2 ≤ _; omega) | (show 4 ≤ _; omega) | (show 6 ≤ _; omega) | (show 8 ≤ _; omega)))
  apply oc0; intro A W hx hf
  exact Q02 4 tu66 (k := 4) rfl Q0m rfl (o2 s7 e_w20 hx (r0 hf)) rfl
  exact onn
 case t24 => exact inferInstance
 clear hr; intro a25 w25 x hr hd hs
 revert s6; revert s7; revert s4; revert s1; refine kp4 hs rfl ?_; intro s1 s4 s7 s6
 clear s36
 have s51 := fa ?b24_1 a25 w25 51 (hd 1 51 rfl)
 have s52 := fa ?b24_2 a25 w25 52 (hd 2 52 rfl)
 replace e_w := e_w.trans x
 replace e_w20 := e_w20.trans x; clear hd hs x
 have z26 := PxS.lt s52
 have l26 := (show (g19_7 = 0 ∨ w.heap.size < g19_7) ∧ True from ⟨by omega, trivial⟩)
 have l26_4 := PxS.lt (Q00 e_w20 s4)
 refine Q1z hr Q0m s52 s51 (by rfl) rfl ?_; clear hr; intro a26 w26 hc hu hr hs
 have hb : Below w.heap.size w25 w26 := hc.below e_w.size l26.1
 revert s6; revert s7; revert s4; revert s1; refine kp4 hs rfl ?_; intro s1 s4 s7 s6
 clear s51 s52
 replace s4 := PxS.other (Q00 e_w20 s4) hc (by omega)
 replace s7 := hu _ _ _ (Q00 e_w20 s7)
 try simp only [List.set_cons_zero, List.set_cons_succ, Q2q] at s7
 replace e_w := e_w.below (Nat.le_refl _) hb
 clear e_w20
 replace s6 := anyw (w2 := w26) s6
 clear hu hs hc hb
 refine wpList_nil ?_
 replace s7 := PxS.cast s7 (show _ = Q2q ⟨Q07 l 0, Q07 l 2, 0, 8, Q07 l 4⟩ from rfl)
 refine es ?_
 refine wp_block ?_
 refine sq ?_
 refine sq ?_
 refine Q04 75 [[(6, none)], [(54, some 0)], [(7, none), (55, some 1)], [(56, some 2), (55, some 1)], [(57, some 3), (55, some 1)], [(55, some 1), (58, some 4)], [(59, some 5)]] [?b27_0, ?b27_0, ?b27_2, ?b27_3, ?b27_4, ?b27_5, ?b27_5] Q08 hr ?t27 ?o27 ?_
 case o27 =>
  apply oc0; intro A W hx hf
  exact Q01 (a0 := a26) (r0 hf)
  apply oc0; intro A W hx hf
  exact Q0h (q0 ?b27_0 A W 54 hf)
  refine ocg 55 ?_ (fun A W hx hf => ?_) ?_
  rfl
  exact gd_t (p1 s6 hx (q1 ?b27_0 A W 55 hf)) (fun hc => Q02 3 tu66 (k := 3) rfl Q0m rfl (o1 s7 hx (r0 hf)) rfl)
  refine ocg 55 ?_ (fun A W hx hf => ?_) ?_
  rfl
  exact gd_t (p1 s6 hx (q1 ?b27_0 A W 55 hf)) (fun hc => Q0a tu3 rfl (G.get (q0 ?b27_2 A W 56 hf) hc) rfl)
  refine ocg 55 ?_ (fun A W hx hf => ?_) ?_
  rfl
  exact gd_t (p1 s6 hx (q1 ?b27_0 A W 55 hf)) (fun hc => Q1b (G.get (q0 ?b27_3 A W 57 hf) hc) (ec A (.int .i64 20)))
  apply oc0; intro A W hx hf
  exact Q2p (p1 s6 hx (q0 ?b27_0 A W 55 hf)) (q1 ?b27_4 A W 58 hf)
  apply oc0; intro A W hx hf
  exact Q03 (q0 ?b27_5 A W 59 hf)
  exact onn
 case t27 => exact inferInstance
 clear hr; intro a28 w28 x hr hd hs
 revert s7; revert s4; revert s1; refine kp3 hs rfl ?_; intro s1 s4 s7
 clear s6
 have s53 := fa ?b27_5 a28 w28 53 (hd 6 53 rfl)
 replace e_w := e_w.trans x
 have e_w26 := x; clear hd hs x
 refine et ?_
 refine wp_cond_split (show _ = _ from s53) (fun hd9 => ?_) (fun hd9 => ?_)
 ·
  exfalso; simp at hd9
 skip
 refine Q04 75 [[(7, none)], [(60, some 0)], [(61, some 1)], [(62, some 2)]] [?b30_0, ?b30_1, ?b30_2, ?b30_2] Q08 hr ?t30 ?o30 ?_
 case o30 =>
  apply oc0; intro A W hx hf
  exact Q02 4 tu66 (k := 4) rfl Q0m rfl (o2 s7 e_w26 hx (r0 hf)) rfl
  apply oc0; intro A W hx hf
  exact Q0a tu3 rfl (q0 ?b30_0 A W 60 hf) rfl
  apply oc0; intro A W hx hf
  exact Q1b (q0 ?b30_1 A W 61 hf) (ec A (.int .i64 8))
  apply oc0; intro A W hx hf
  exact Q03 (q0 ?b30_2 A W 62 hf)
  exact onn
 case t30 => exact inferInstance
 clear hr; intro a31 w31 x hr hd hs
 revert s7; revert s4; revert s1; refine kp3 hs rfl ?_; intro s1 s4 s7
 clear s53
 have s53 := fa ?b30_2 a31 w31 53 (hd 3 53 rfl)
 replace e_w := e_w.trans x
 replace e_w26 := e_w26.trans x; clear hd hs x
 refine et ?_
 refine wp_cond_split (show _ = _ from s53) (fun hh => ?_) (fun hh => ?_)
 ·
  have hh : Q07 l 4 < 8 := by simpa using hh
  have hrd : Q25 l = (Q2z, 3) := by unfold Q25; rw [if_neg hl, if_pos hh]
  refine sq ?_
  refine Q06 (l := [_]) (rest := [_, _]) 75 [[]] [?b33_0] hr ?t33 ?o33 ?_
  case o33 =>
   apply oc0; intro A W hx hf
   exact Q13 Q3t
   exact onn
  case t33 => exact inferInstance
  clear hr; intro a34 w34 x hr hd hs
  revert s4; refine kp1 hs rfl ?_; intro s4
  clear s1 s7 s53
  have s63 := fa ?b33_0 a34 w34 63 (hd 0 63 rfl)
  replace e_w := e_w.trans x
  replace e_w26 := e_w26.trans x; clear hd hs x
  have z35 := PxS.lt (Q00 e_w26 s4)
  have l35 := (show (g2_4 = 0 ∨ w.heap.size < g2_4) ∧ True from ⟨by omega, trivial⟩)
  refine Q0k hr Q1j (Q00 e_w26 s4) s63 (by exact Q2b _) (by exact Q1r) rfl ?_; clear hr; intro a35 w35 hc hu hr hs
  have hb : Below w.heap.size w34 w35 := hc.below e_w.size l35.1
  revert s4; refine kp1 hs rfl ?_; intro s4
  clear s63
  replace s4 := hu _ _ _ (Q00 e_w26 s4)
  try simp only [List.set_cons_zero, List.set_cons_succ, Q2q] at s4
  replace e_w := e_w.below (Nat.le_refl _) hb
  clear e_w26
  clear hu hs hc hb
  refine Q11 hr (Q05) inferInstance ?_; clear hr; intro a36 w36 x hr hd hs
  revert s4; refine kp1 hs rfl ?_; intro s4
  have s5 := hd 5 rfl (by decide)
  replace e_w := e_w.trans x
  have e_w35 := x; clear hd hs x
  refine wpList_nil ?_
  refine et ?_
  refine wp_ret ?_
  refine Q1t ?_
  refine Q0e ?_
  refine Q0f Try.results61 hr tu66 rfl Q1j (Q00 e_w35 s4) e_w ?_
  (rw [hrd]; exact ⟨_, _, rfl, rfl, s5⟩)
 have hh : ¬ Q07 l 4 < 8 := by simpa using hh
 refine sq ?_
 refine Q04 75 [[(7, none)], [(65, some 0)], [(7, none)], [(67, some 2)], [(66, some 1), (68, some 3)], [(1, none)], [(70, some 5)], [(69, some 4), (71, some 6)], [(72, some 7)]] [?b37_0, ?b37_1, ?b37_2, ?b37_3, ?b37_4, ?b37_5, ?b37_6, ?b37_7, ?b37_7] Q08 hr ?t37 ?o37 ?_
 case o37 =>
  apply oc0; intro A W hx hf
  exact Q02 3 tu66 (k := 3) rfl Q0m rfl (o2 s7 e_w26 hx (r0 hf)) rfl
  apply oc0; intro A W hx hf
  exact Q0a tu3 rfl (q0 ?b37_0 A W 65 hf) rfl
  apply oc0; intro A W hx hf
  exact Q02 4 tu66 (k := 4) rfl Q0m rfl (o2 s7 e_w26 hx (r0 hf)) rfl
  apply oc0; intro A W hx hf
  exact Q0a tu3 rfl (q0 ?b37_2 A W 67 hf) rfl
  apply oc0; intro A W hx hf
  exact Qbl (q0 ?b37_1 A W 66 hf) (q1 ?b37_3 A W 68 hf)
  apply oc0; intro A W hx hf
  exact Q01 (a0 := a31) (r0 hf)
  apply oc0; intro A W hx hf
  exact Q0v tu22 (p2 s1 e_w hx (q0 ?b37_5 A W 70 hf))
  apply oc0; intro A W hx hf
  exact Q3m (q0 ?b37_4 A W 69 hf) (q1 ?b37_6 A W 71 hf)
  apply oc0; intro A W hx hf
  exact Q03 (q0 ?b37_7 A W 72 hf)
  exact onn
 case t37 => exact inferInstance
 clear hr; intro a38 w38 x hr hd hs
 revert s7; revert s4; refine kp2 hs rfl ?_; intro s4 s7
 clear s1 s53
 have s64 := fa ?b37_7 a38 w38 64 (hd 8 64 rfl)
 replace e_w := e_w.trans x
 replace e_w26 := e_w26.trans x; clear hd hs x
 refine et ?_
 refine wp_cond_split (show _ = _ from s64) (fun ht => ?_) (fun ht => ?_)
 ·
  have ht : Q07 l 4 > (l.length : Int) := Qo9 (by omega) ht
  have hrd : Q25 l = (Q2z, 2) := by unfold Q25; rw [if_neg hl, if_neg hh, if_pos ht]
  refine sq ?_
  refine Q06 (l := [_]) (rest := [_, _]) 75 [[]] [?b40_0] hr ?t40 ?o40 ?_
  case o40 =>
   apply oc0; intro A W hx hf
   exact Q13 Q3t
   exact onn
  case t40 => exact inferInstance
  clear hr; intro a41 w41 x hr hd hs
  revert s4; refine kp1 hs rfl ?_; intro s4
  clear s7 s64
  have s73 := fa ?b40_0 a41 w41 73 (hd 0 73 rfl)
  replace e_w := e_w.trans x
  replace e_w26 := e_w26.trans x; clear hd hs x
  have z42 := PxS.lt (Q00 e_w26 s4)
  have l42 := (show (g2_4 = 0 ∨ w.heap.size < g2_4) ∧ True from ⟨by omega, trivial⟩)
  refine Q0k hr Q1j (Q00 e_w26 s4) s73 (by exact Q2b _) (by exact Q1r) rfl ?_; clear hr; intro a42 w42 hc hu hr hs
  have hb : Below w.heap.size w41 w42 := hc.below e_w.size l42.1
  revert s4; refine kp1 hs rfl ?_; intro s4
  clear s73
  replace s4 := hu _ _ _ (Q00 e_w26 s4)
  try simp only [List.set_cons_zero, List.set_cons_succ, Q2q] at s4
  replace e_w := e_w.below (Nat.le_refl _) hb
  clear e_w26
  clear hu hs hc hb
  refine Q11 hr (Q05) inferInstance ?_; clear hr; intro a43 w43 x hr hd hs
  revert s4; refine kp1 hs rfl ?_; intro s4
  have s5 := hd 5 rfl (by decide)
  replace e_w := e_w.trans x
  have e_w42 := x; clear hd hs x
  refine wpList_nil ?_
  refine et ?_
  refine wp_ret ?_
  refine Q1t ?_
  refine Q0e ?_
  refine Q0f Try.results61 hr tu66 rfl Q1j (Q00 e_w42 s4) e_w ?_
  (rw [hrd]; exact ⟨_, _, rfl, rfl, s5⟩)
 have ht : ¬ Q07 l 4 > (l.length : Int) := Qoa ht
 have hrd : Q25 l = (⟨Q07 l 0, Q07 l 2, 0, 8, Q07 l 4⟩, 0) := by unfold Q25; rw [if_neg hl, if_neg hh, if_neg ht]
 refine wp_skip ?_
 refine Q0x ?_
 refine es ?_
 refine Q06 (l := [_]) (rest := [_, _]) 75 [[(7, none)]] [?b44_0] hr ?t44 ?o44 ?_
 case o44 =>
  apply oc0; intro A W hx hf
  exact Q0b 5 tu66 rfl Q1j (o2 s7 e_w26 hx (r0 hf)) rfl
  exact onn
 case t44 => exact inferInstance
 clear hr; intro a45 w45 x hr hd hs
 revert s4; refine kp1 hs rfl ?_; intro s4
 clear s7 s64
 have s74 := fa ?b44_0 a45 w45 74 (hd 0 74 rfl)
 replace e_w := e_w.trans x
 replace e_w26 := e_w26.trans x; clear hd hs x
 have z46 := PxS.lt (Q00 e_w26 s4)
 have l46 := (show (g2_4 = 0 ∨ w.heap.size < g2_4) ∧ True from ⟨by omega, trivial⟩)
 refine Q0k hr Q1j (Q00 e_w26 s4) (show Is (Qcd ⟨Q07 l 0, Q07 l 2, 0, 8, Q07 l 4⟩) _ _ from s74) (by exact Q2b _) (by exact Q1r) rfl ?_; clear hr; intro a46 w46 hc hu hr hs
 have hb : Below w.heap.size w45 w46 := hc.below e_w.size l46.1
 revert s4; refine kp1 hs rfl ?_; intro s4
 clear s74
 replace s4 := hu _ _ _ (Q00 e_w26 s4)
 try simp only [List.set_cons_zero, List.set_cons_succ, Q2q] at s4
 replace e_w := e_w.below (Nat.le_refl _) hb
 clear e_w26
 clear hu hs hc hb
 refine Q11 hr (Q05) inferInstance ?_; clear hr; intro a47 w47 x hr hd hs
 revert s4; refine kp1 hs rfl ?_; intro s4
 have s5 := hd 5 rfl (by decide)
 replace e_w := e_w.trans x
 have e_w46 := x; clear hd hs x
 refine wpList_nil ?_
 refine et ?_
 refine wp_ret ?_
 refine Q0f Try.results61 hr tu66 rfl Q1j (Q00 e_w46 s4) e_w ?_
 (rw [hrd]; exact ⟨_, _, rfl, rfl, s5⟩)

end Go.Proofs.Ytlmdboaghojgiaa
