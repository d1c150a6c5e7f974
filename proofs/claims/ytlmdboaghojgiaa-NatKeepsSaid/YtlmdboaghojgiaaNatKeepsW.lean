import Derived.Test.YtlmdboaghojgiaaA12
namespace Go.Proofs.Ytlmdboaghojgiaa
open Go.RowKit
set_option linter.unusedVariables false
set_option linter.unusedSimpArgs false
set_option maxRecDepth 4000
def Q8m : List Tmp := [10, 39, 40, 41, 42, 43, 44, 45, 46, 47, 48, 49, 50, 51, 52]
set_option maxHeartbeats 1000000 in
theorem Qbg {x0 x1 x2 : Value} {w : World} {l : List UInt8} {Sa : Adr} {p9 : Int} (h0 : (Bs l) x0 w) (h1 : (Is (AdrV Sa)) x1 w) (h2 : (Is (.int .i64 p9)) x2 w) (hA : Sa.b.length = 16) :
    Calls Try.prog 8 #[x0, x1, x2] w (Ret (Is (.bool true)) w) := by
 have hlen := Bs.len_le h0
 refine enter Try.func8 rfl Try.ntmps8 (k := 3) rfl (by decide) (fun a0 hr hargs => ?_)
 have s0 := sarg h0 (hargs 0 (by decide))
 have s1 := sarg h1 (hargs 1 (by decide))
 have s2 := sarg h2 (hargs 2 (by decide))
 clear hargs
 refine sq ?_
 refine Q04 67 [[(1, none)], []] [?b1_0, ?b1_1] Q07 hr ?t1 ?o1 ?_
 case o1 =>
  apply oc0; intro A W hx hf
  exact Q2i [[.bool Sa.six], Sa.b.map Q0z] [1, 16] (Is.conv (o1 s1 hx (r0 hf)) (Q1x Sa).symm) (by simp [*]) hx.size
  apply oc0; intro A W hx hf
  exact Q06
  exact onn
 case t1 => exact inferInstance
 clear hr; intro a2 w2 x hr hd hs
 revert s2; revert s0; refine kp2 hs rfl ?_; intro s0 s2
 clear s1
 have s4 := fa ?b1_0 a2 w2 4 (hd 0 4 rfl)
 obtain ⟨g2_4, q2_4⟩ := PxN.at s4; clear s4; have n2_4 := PxS.lt q2_4
 have s4 := q2_4; clear q2_4
 have e_w := x; clear hd hs x
 refine es ?_
 refine sq ?_
 refine Q04 67 [[], [(13, some 0)], [(14, some 1)], [(0, none), (15, some 2)], [(16, some 3), (15, some 2)], [(17, some 4), (15, some 2)], [(15, some 2), (18, some 5)]] [?b3_0, ?b3_1, ?b3_1, ?b3_3, ?b3_4, ?b3_5, ?b3_6] Q07 hr ?t3 ?o3 ?_
 case o3 =>
  apply oc0; intro A W hx hf
  exact Qas Qnc (Qbx )
  apply oc0; intro A W hx hf
  exact Q42 (q0 ?b3_0 A W 13 hf)
  apply oc0; intro A W hx hf
  exact Q0p (q0 ?b3_1 A W 14 hf)
  refine ocg 15 ?_ (fun A W hx hf => ?_) ?_
  rfl
  exact gd_f (q1 ?b3_1 A W 15 hf) (fun hc => Q01 (a0 := a2) (r0 hf))
  refine ocg 15 ?_ (fun A W hx hf => ?_) ?_
  rfl
  exact gd_f (q1 ?b3_1 A W 15 hf) (fun hc => Q0u tu22 (p2 s0 e_w hx (G.get (q0 ?b3_3 A W 16 hf) hc)))
  refine ocg 15 ?_ (fun A W hx hf => ?_) ?_
  rfl
  exact gd_f (q1 ?b3_1 A W 15 hf) (fun hc => Q4l (G.get (q0 ?b3_4 A W 17 hf) hc) (ec A (.int .i64 3000)))
  apply oc0; intro A W hx hf
  exact Q4k (q0 ?b3_1 A W 15 hf) (q1 ?b3_5 A W 18 hf)
  exact onn
 case t3 => exact inferInstance
 clear hr; intro a4 w4 x hr hd hs
 revert s4; revert s2; revert s0; refine kp3 hs rfl ?_; intro s0 s2 s4
 have s19 := fa ?b3_6 a4 w4 19 (hd 6 19 rfl)
 replace e_w := e_w.trans x
 have e_w2 := x; clear hd hs x
 refine et ?_
 refine wp_cond_split (show _ = _ from s19) (fun hg => ?_) (fun hg => ?_)
 ·
  skip
  refine sq ?_
  refine Q04 67 [[], [(20, some 0)]] [?b6_0, ?b6_0] Q07 hr ?t6 ?o6 ?_
  case o6 =>
   apply oc0; intro A W hx hf
   exact Qas Qnc (Qbx )
   apply oc0; intro A W hx hf
   exact Q03 (q0 ?b6_0 A W 20 hf)
   exact onn
  case t6 => exact inferInstance
  clear hr; intro a7 w7 x hr hd hs
  clear s0 s2 s4 s19
  have s6 := fa ?b6_0 a7 w7 6 (hd 1 6 rfl)
  replace e_w := e_w.trans x
  clear e_w2; clear hd hs x
  refine et ?_
  refine wp_ret ?_
  refine Q0d ?_
  refine Q14 Try.results8 hr e_w ?_
  first | with_reducible exact s6 | exact Is.bool s6 (by rw [Qby]; simp)
 have hg9 : l.length ≤ 3000 := by simp at hg; omega
 refine wp_skip ?_
 refine es ?_
 refine Q05 (l := [_, _]) (rest := [_, _]) 67 [[], [(0, none)]] [?b8_0, ?b8_1] hr ?t8 ?o8 ?_
 case o8 =>
  apply oc0; intro A W hx hf
  exact Q2d [] [] tu22 Q0i Q2v rfl rfl (by decide) hx.size (PartsOk.nil)
  apply oc0; intro A W hx hf
  exact Q01 (a0 := a4) (r0 hf)
  exact onn
 case t8 => exact inferInstance
 clear hr; intro a9 w9 x hr hd hs
 have z_w_w4 := e_w.size
 have z_w2_w4 := e_w2.size
 have l9_4 := PxS.lt (Q00 e_w2 s4)
 have u22 := mv s0 (fa ?b8_1 a9 w9 22 (hd 1 22 rfl))
 revert s4; revert s2; revert s0; refine kp3 hs rfl ?_; intro s0 s2 s4
 clear s19
 have s22 := u22; clear u22
 have s21 := fa ?b8_0 a9 w9 21 (hd 0 21 rfl)
 obtain ⟨g9_21, q9_21⟩ := OwnB.at s21; clear s21; have n9_21 := OwnBA.lt q9_21
 replace q9_21 := OwnBA.mono q9_21 e_w.size
 have s21 := q9_21; clear q9_21
 replace e_w := e_w.trans x
 replace e_w2 := e_w2.trans x; clear hd hs x
 have l10 := OwnBA.lt s21
 have l10_4 := PxS.lt (Q00 e_w2 s4)
 refine Q0s hr (by decide) tu22 Q2q rfl s21 (Q00 e_w s22) e_w.size (by simp; omega) ?_; clear hr; intro g10 a10 w10 hg10 hc hr hd hs
 have hb := hc.below e_w.size l10.1
 revert s4; revert s2; revert s0; refine kp3 hs rfl ?_; intro s0 s2 s4
 clear s22 s21
 replace s4 := PxS.other (Q00 e_w2 s4) hc (by omega)
 have s23 := hd
 replace e_w := e_w.below (Nat.le_refl _) hb
 clear e_w2
 clear hd hs hb hc
 refine Q10 hr (Q03 s23) inferInstance ?_; clear hr; intro a11 w11 x hr hd hs
 revert s4; revert s2; revert s0; refine kp3 hs rfl ?_; intro s0 s2 s4
 clear s23
 have s7 := hd 7 rfl (by decide)
 replace e_w := e_w.trans x
 have e_w10 := x; clear hd hs x
 refine wpList_nil ?_
 replace s7 := OwnBA.cast s7 (show _ = l from by simp)
 refine es ?_
 refine Q04 67 [[(7, none)], [(4, none)], [(2, none)], [(25, some 0), (26, some 1), (27, some 2)], [(28, some 3)], [(24, some 4)], [(24, some 4)], [(29, some 5)], [(30, some 6)]] [?b12_0, ?b12_1, ?b12_2, ?b12_3, ?b12_3, ?b12_5, ?b12_6, ?b12_5, ?b12_6] Q07 hr ?t12 ?o12 ?_
 case o12 =>
  apply oc0; intro A W hx hf
  exact Q01 (a0 := a11) (r0 hf)
  apply oc0; intro A W hx hf
  exact Q0j 2 tu25 rfl Q16 (o2 s4 e_w10 hx (r0 hf)) rfl
  apply oc0; intro A W hx hf
  exact Q01 (a0 := a11) (r0 hf)
  apply oc0; intro A W hx hf
  exact Q26 Qbz (Qh1 (OwnBA.bs (p1 s7 hx (q0 ?b12_0 A W 25 hf))) (Is.conv (q1 ?b12_1 A W 26 hf) (Q1x Sa)) (p2 s2 e_w hx (q2 ?b12_2 A W 27 hf)) (by exact hA) (by omega) hx.size)
  apply oc0; intro A W hx hf
  exact Q0p (q0 ?b12_3 A W 28 hf)
  apply oc0; intro A W hx hf
  exact Q2a (q0 ?b12_3 A W 24 hf)
  apply oc0; intro A W hx hf
  exact Q2b (q0 ?b12_3 A W 24 hf)
  apply oc0; intro A W hx hf
  exact Q03 (q0 ?b12_5 A W 29 hf)
  apply oc0; intro A W hx hf
  exact Q03 (q0 ?b12_6 A W 30 hf)
  exact onn
 case t12 => exact inferInstance
 clear hr; intro a13 w13 x hr hd hs
 have z_w_w11 := e_w.size
 have z_w10_w11 := e_w10.size
 have l13_4 := PxS.lt (Q00 e_w10 s4)
 have l13_7 := OwnBA.lt s7
 revert s7; revert s4; revert s2; revert s0; refine kp4 hs rfl ?_; intro s0 s2 s4 s7
 have s8 := fa ?b12_5 a13 w13 8 (hd 7 8 rfl)
 have s9 := fa ?b12_6 a13 w13 9 (hd 8 9 rfl)
 obtain ⟨g13_8, q13_8⟩ := OwnB.at s8; clear s8; have n13_8 := OwnBA.lt q13_8
 replace q13_8 := OwnBA.mono q13_8 e_w.size
 have s8 := q13_8; clear q13_8
 replace e_w := e_w.trans x
 replace e_w10 := e_w10.trans x
 have e_w11 := x; clear hd hs x
 refine es ?_
 refine Q04 67 [[(7, none)], [(4, none)], [(2, none)], [(31, some 0), (32, some 1), (33, some 2)]] [?b14_0, ?b14_1, ?b14_2, ?b14_3] Q07 hr ?t14 ?o14 ?_
 case o14 =>
  apply oc0; intro A W hx hf
  exact Q01 (a0 := a13) (r0 hf)
  apply oc0; intro A W hx hf
  exact Q0j 2 tu25 rfl Q16 (o2 s4 e_w10 hx (r0 hf)) rfl
  apply oc0; intro A W hx hf
  exact Q01 (a0 := a13) (r0 hf)
  apply oc0; intro A W hx hf
  exact Q26 Ql1 (Qh2 (OwnBA.bs (p2 s7 e_w11 hx (q0 ?b14_0 A W 31 hf))) (Is.conv (q1 ?b14_1 A W 32 hf) (Q1x Sa)) (p2 s2 e_w hx (q2 ?b14_2 A W 33 hf)) (by exact hA) (by omega) hx.size)
  exact onn
 case t14 => exact inferInstance
 clear hr; intro a15 w15 x hr hd hs
 revert s8; revert s9; revert s7; revert s4; revert s2; revert s0; refine kp6 hs rfl ?_; intro s0 s2 s4 s7 s9 s8
 replace e_w := e_w.trans x
 replace e_w10 := e_w10.trans x
 replace e_w11 := e_w11.trans x
 have e_w13 := x; clear hd hs x
 refine es ?_
 refine sq ?_
 refine Q04 67 [[(7, none)], [(0, none)], [(35, some 0), (36, some 1)], [(37, some 2)]] [?b16_0, ?b16_1, ?b16_2, ?b16_3] Q07 hr ?t16 ?o16 ?_
 case o16 =>
  apply oc0; intro A W hx hf
  exact Q01 (a0 := a15) (r0 hf)
  apply oc0; intro A W hx hf
  exact Q01 (a0 := a15) (r0 hf)
  apply oc0; intro A W hx hf
  exact Q0t Qev (Qew (OwnBA.bs (p2 s7 e_w11 hx (q0 ?b16_0 A W 35 hf))) (p2 s0 e_w hx (q1 ?b16_1 A W 36 hf)))
  apply oc0; intro A W hx hf
  exact Q42 (q0 ?b16_2 A W 37 hf)
  exact onn
 case t16 => exact inferInstance
 clear hr; intro a17 w17 x hr hd hs
 revert s8; revert s9; revert s7; revert s4; revert s2; revert s0; refine kp6 hs rfl ?_; intro s0 s2 s4 s7 s9 s8
 have s38 := fa ?b16_3 a17 w17 38 (hd 3 38 rfl)
 replace e_w := e_w.trans x
 replace e_w10 := e_w10.trans x
 replace e_w11 := e_w11.trans x
 replace e_w13 := e_w13.trans x; clear hd hs x
 refine et ?_
 refine wp_cond_split (show _ = _ from s38) (fun hd9 => ?_) (fun hd9 => ?_)
 ·
  exfalso; simp at hd9
 try simp only [decide_eq_true_eq, decide_eq_false_iff_not, Bool.not_eq_true', Bool.not_eq_false', Bool.not_true, Bool.not_false, Bool.and_eq_true, Bool.and_eq_false_iff, Bool.or_eq_true, Bool.or_eq_false_iff, bne_iff_ne, beq_iff_eq, ne_eq, beq_eq_false_iff_ne, bne_eq_false_iff_eq] at hd9
 refine wp_skip ?_
 refine es ?_
 refine sq ?_
 refine Q04 67 [[]] [?b19_0] Q07 hr ?t19 ?o19 ?_
 case o19 =>
  apply oc0; intro A W hx hf
  exact Q06
  exact onn
 case t19 => exact inferInstance
 clear hr; intro a20 w20 x hr hd hs
 revert s8; revert s9; revert s7; revert s4; revert s2; revert s0; refine kp6 hs rfl ?_; intro s0 s2 s4 s7 s9 s8
 clear s38
 have s10 := fa ?b19_0 a20 w20 10 (hd 0 10 rfl)
 replace e_w := e_w.trans x
 replace e_w10 := e_w10.trans x
 replace e_w11 := e_w11.trans x
 replace e_w13 := e_w13.trans x; clear hd hs x
 refine et ?_
 refine wp_block ?_
 refine Q11 (fun n A W => ∃ (i : Nat) (m : List UInt8), n = m.length - i ∧ Fr 67 A ∧ Same Q8m a20 A ∧ Ext w W ∧ (m.length = l.length) ∧ (PxS g2_4 w.heap.size [1, 16] [[.bool Sa.six], Sa.b.map Q0z] 0) (A.eval (.tmp 4)) W ∧ (OwnBA g10 w.heap.size 5 m) (A.eval (.tmp 7)) W ∧ (OwnBA g13_8 w.heap.size 5 (natR l Sa p9 true).1) (A.eval (.tmp 8)) W ∧ (Is (.int .i64 (i : Int))) (A.eval (.tmp 10)) W) ?start21 ?_
 case start21 =>
  refine ⟨_, 0, l, rfl, hr, Same.rfl, e_w, (by rfl), ?_, ?_, ?_, ?_⟩
  · first | exact (Q00 e_w10 s4) | exact Is.int (Q00 e_w10 s4) (by first | omega | simp) | exact Is.bool (Q00 e_w10 s4) (by first | omega | simp)
  · first | exact (Q00 e_w11 s7) | exact Is.int (Q00 e_w11 s7) (by first | omega | simp) | exact Is.bool (Q00 e_w11 s7) (by first | omega | simp)
  · first | exact (Q00 e_w13 s8) | exact Is.int (Q00 e_w13 s8) (by first | omega | simp) | exact Is.bool (Q00 e_w13 s8) (by first | omega | simp)
  · first | exact s10 | exact Is.int s10 (by first | omega | simp) | exact Is.bool s10 (by first | omega | simp)
 intro n21 a21 w21 hI
 clear e_w
 clear e_w10
 clear e_w11
 clear e_w13
 clear hr; obtain ⟨i, m, hn21, hr, hs, e_w, hm, u4, u7, u8, u10⟩ := hI
 revert s9; revert s2; revert s0; refine kp3 hs rfl ?_; intro s0 s2 s9
 clear s4 s7 s8 s10
 have s4 := u4; clear u4
 have s7 := u7; clear u7
 have s8 := u8; clear u8
 have s10 := u10; clear u10
 replace s9 := anyw (w2 := w21) s9
 have m21 := hs; clear hs
 refine sq ?_
 refine sq ?_
 refine Q04 67 [[(10, none)], [(7, none)], [(40, some 1)], [(39, some 0), (41, some 2)]] [?b22_0, ?b22_1, ?b22_2, ?b22_3] Q07 hr ?t22 ?o22 ?_
 case o22 =>
  apply oc0; intro A W hx hf
  exact Q01 (a0 := a21) (r0 hf)
  apply oc0; intro A W hx hf
  exact Q01 (a0 := a21) (r0 hf)
  apply oc0; intro A W hx hf
  exact Q0u tu22 (OwnBA.bs (p1 s7 hx (q0 ?b22_1 A W 40 hf)))
  apply oc0; intro A W hx hf
  exact Q1e (p1 s10 hx (q0 ?b22_0 A W 39 hf)) (q1 ?b22_2 A W 41 hf)
  exact onn
 case t22 => exact inferInstance
 clear hr; intro a23 w23 x hr hd hs
 revert s10; revert s8; revert s7; revert s4; revert s2; revert s0; refine kp6 hs rfl ?_; intro s0 s2 s4 s7 s8 s10
 revert s9; refine kp1 hs rfl ?_; intro s9
 have s42 := fa ?b22_3 a23 w23 42 (hd 3 42 rfl)
 replace e_w := e_w.trans x
 have e_w21 := x
 replace m21 := m21.tr hs rfl; clear hd hs x
 refine et ?_
 refine wp_cond_split (show _ = _ from s42) (fun hlt => ?_) (fun hlt => ?_)
 ·
  have hlt : i < m.length := by simp at hlt; omega
  refine wp_skip ?_
  refine es ?_
  refine wp_block ?_
  refine Q05 (l := [_, _, _, _, _, _, _, _]) (rest := [_]) 67 [[(7, none)], [(10, none)], [(7, none)], [(10, none)], [(47, some 2), (48, some 3)], [(49, some 4)], [(50, some 5)], [(45, some 0), (46, some 1)]] [?b25_0, ?b25_1, ?b25_2, ?b25_3, ?b25_4, ?b25_5, ?b25_6, ?b25_7] hr ?t25 ?o25 ?_
  case o25 =>
   apply oc0; intro A W hx hf
   exact Q01 (a0 := a23) (r0 hf)
   apply oc0; intro A W hx hf
   exact Q01 (a0 := a23) (r0 hf)
   apply oc0; intro A W hx hf
   exact Q01 (a0 := a23) (r0 hf)
   apply oc0; intro A W hx hf
   exact Q01 (a0 := a23) (r0 hf)
   apply oc0; intro A W hx hf
   exact Q0e (_) tu22 Q0i (OwnBA.bs (p2 s7 e_w21 hx (q0 ?b25_2 A W 47 hf))) (p2 s10 e_w21 hx (q1 ?b25_3 A W 48 hf)) (by exact hlt)
   apply oc0; intro A W hx hf
   exact Q0q tu5 rfl (q0 ?b25_4 A W 49 hf)
   apply oc0; intro A W hx hf
   exact Qly (q0 ?b25_5 A W 50 hf) (ec A (.int .u8 255))
   apply oc0; intro A W hx hf
   exact Q1s (_) tu22 Q0i (p2 s7 e_w21 hx (q0 ?b25_0 A W 45 hf)) (p2 s10 e_w21 hx (q1 ?b25_1 A W 46 hf)) (by exact hlt)
   exact onn
  case t25 => exact inferInstance
  clear hr; intro a26 w26 x hr hd hs
  revert s10; revert s8; revert s7; revert s4; revert s2; revert s0; refine kp6 hs rfl ?_; intro s0 s2 s4 s7 s8 s10
  revert s9; refine kp1 hs rfl ?_; intro s9
  clear s42
  have s51 := fa ?b25_6 a26 w26 51 (hd 6 51 rfl)
  have s52 := fa ?b25_7 a26 w26 52 (hd 7 52 rfl)
  replace e_w := e_w.trans x
  replace e_w21 := e_w21.trans x
  replace m21 := m21.tr hs rfl; clear hd hs x
  have z27 := EpA.lt s52
  have l27 := (show (g10 = 0 ∨ w.heap.size < g10) ∧ True from ⟨by omega, trivial⟩)
  have l27_4 := PxS.lt (Q00 e_w21 s4)
  have l27_8 := OwnBA.lt (Q00 e_w21 s8)
  refine Q1t hr Q0i s52 (ByteIs.of s51 (by exact Qnd _ 255)) ?_; clear hr; intro a27 w27 hc hu hr hs
  have hb : Below w.heap.size w26 w27 := hc.below e_w.size l27.1
  revert s10; revert s8; revert s7; revert s4; revert s2; revert s0; refine kp6 hs rfl ?_; intro s0 s2 s4 s7 s8 s10
  revert s9; refine kp1 hs rfl ?_; intro s9
  clear s51 s52
  replace s4 := PxS.other (Q00 e_w21 s4) hc (by omega)
  replace s7 := hu _ _ _ (Q00 e_w21 s7)
  replace s8 := OwnBA.other (Q00 e_w21 s8) hc (by omega)
  replace e_w := e_w.below (Nat.le_refl _) hb
  clear e_w21
  replace s10 := anyw (w2 := w27) s10
  replace s9 := anyw (w2 := w27) s9
  replace m21 := m21.tr hs rfl
  clear hu hs hc hb
  refine wpList_nil ?_
  replace s7 := OwnBA.cast s7 (show _ = m.set i (m[i]'hlt ^^^ 255) from by rw [show (255 : Int) = (((255 : UInt8).toNat : Nat) : Int) from rfl, Qne])
  refine Q0w ?_
  refine et ?_
  refine Q04 67 [[(10, none)], [(43, some 0)], [(44, some 1)]] [?b28_0, ?b28_1, ?b28_1] Q07 hr ?t28 ?o28 ?_
  case o28 =>
   apply oc0; intro A W hx hf
   exact Q01 (a0 := a27) (r0 hf)
   apply oc0; intro A W hx hf
   exact Q0h (p1 s10 hx (q0 ?b28_0 A W 43 hf)) (ec A (.int .i64 1)) (by omega)
   apply oc0; intro A W hx hf
   exact Q03 (q0 ?b28_1 A W 44 hf)
   exact onn
  case t28 => exact inferInstance
  clear hr; intro a29 w29 x hr hd hs
  revert s7; revert s9; revert s8; revert s4; revert s2; revert s0; refine kp6 hs rfl ?_; intro s0 s2 s4 s8 s9 s7
  clear s10
  have s10 := fa ?b28_1 a29 w29 10 (hd 2 10 rfl)
  replace e_w := e_w.trans x
  have e_w27 := x
  replace m21 := m21.tr hs rfl; clear hd hs x
  refine et ?_
  refine ⟨(fun (i : Nat) (m : List UInt8) => m.length - i) (i + 1) (m.set i (m[i]'hlt ^^^ 255)), ?_, ?_⟩
  · (try dsimp only); simp; omega
  refine ⟨i + 1, m.set i (m[i]'hlt ^^^ 255), rfl, hr, m21, e_w, (by simp [hm]), ?_, ?_, ?_, ?_⟩
  · first | exact (Q00 e_w27 s4) | exact Is.int (Q00 e_w27 s4) (by first | omega | simp) | exact Is.bool (Q00 e_w27 s4) (by first | omega | simp)
  · first | exact (Q00 e_w27 s7) | exact Is.int (Q00 e_w27 s7) (by first | omega | simp) | exact Is.bool (Q00 e_w27 s7) (by first | omega | simp)
  · first | exact (Q00 e_w27 s8) | exact Is.int (Q00 e_w27 s8) (by first | omega | simp) | exact Is.bool (Q00 e_w27 s8) (by first | omega | simp)
  · first | exact s10 | exact Is.int s10 (by first | omega | simp) | exact Is.bool s10 (by first | omega | simp)
 skip
 refine wp_exit ?_
 refine Q0g ?_
 refine Q0g ?_
 refine Q1b ?_
 refine es ?_
 refine Q04 67 [[(0, none)], [(4, none)], [(2, none)], [(54, some 0), (55, some 1), (56, some 2)], [(57, some 3)], [(53, some 4)], [(53, some 4)], [(58, some 5)], [(59, some 6)]] [?b30_0, ?b30_1, ?b30_2, ?b30_3, ?b30_3, ?b30_5, ?b30_6, ?b30_5, ?b30_6] Q07 hr ?t30 ?o30 ?_
 case o30 =>
  apply oc0; intro A W hx hf
  exact Q01 (a0 := a23) (r0 hf)
  apply oc0; intro A W hx hf
  exact Q0j 2 tu25 rfl Q16 (o2 s4 e_w21 hx (r0 hf)) rfl
  apply oc0; intro A W hx hf
  exact Q01 (a0 := a23) (r0 hf)
  apply oc0; intro A W hx hf
  exact Q54 Qnf (Qc0 (p2 s0 e_w hx (q0 ?b30_0 A W 54 hf)) (Is.conv (q1 ?b30_1 A W 55 hf) (Q1x Sa)) (p2 s2 e_w hx (q2 ?b30_2 A W 56 hf)) (show Is (.bool true) (A.eval (.const (.bool true))) _ from rfl) (by exact hA) (by omega) hx.size)
  apply oc0; intro A W hx hf
  exact Q0p (q0 ?b30_3 A W 57 hf)
  apply oc0; intro A W hx hf
  exact Q2a (q0 ?b30_3 A W 53 hf)
  apply oc0; intro A W hx hf
  exact Q2b (q0 ?b30_3 A W 53 hf)
  apply oc0; intro A W hx hf
  exact Q03 (q0 ?b30_5 A W 58 hf)
  apply oc0; intro A W hx hf
  exact Q03 (q0 ?b30_6 A W 59 hf)
  exact onn
 case t30 => exact inferInstance
 clear hr; intro a31 w31 x hr hd hs
 have z_w_w23 := e_w.size
 have z_w21_w23 := e_w21.size
 have l31_4 := PxS.lt (Q00 e_w21 s4)
 have l31_7 := OwnBA.lt (Q00 e_w21 s7)
 have l31_8 := OwnBA.lt (Q00 e_w21 s8)
 revert s9; revert s8; refine kp2 hs rfl ?_; intro s8 s9
 clear s0 s2 s4 s7 s10 s42
 have s11 := fa ?b30_5 a31 w31 11 (hd 7 11 rfl)
 obtain ⟨g31_11, q31_11⟩ := OwnB.at s11; clear s11; have n31_11 := OwnBA.lt q31_11
 replace q31_11 := OwnBA.mono q31_11 e_w.size
 have s11 := q31_11; clear q31_11
 replace e_w := e_w.trans x
 replace e_w21 := e_w21.trans x; clear hd hs x
 refine es ?_
 refine Q04 67 [[(9, none)], [(60, some 0)], [(61, some 1)], [(8, none), (62, some 2)], [(11, none), (62, some 2)], [(63, some 3), (64, some 4), (62, some 2)], [(62, some 2), (65, some 5)], [(66, some 6)]] [?b32_0, ?b32_1, ?b32_1, ?b32_3, ?b32_4, ?b32_5, ?b32_6, ?b32_6] Q07 hr ?t32 ?o32 ?_
 case o32 =>
  apply oc0; intro A W hx hf
  exact Q01 (a0 := a31) (r0 hf)
  apply oc0; intro A W hx hf
  exact Q2h (p2 s9 e_w21 hx (q0 ?b32_0 A W 60 hf)) (ec A (.int .i64 0))
  apply oc0; intro A W hx hf
  exact Q0p (q0 ?b32_1 A W 61 hf)
  refine ocg 62 ?_ (fun A W hx hf => ?_) ?_
  rfl
  exact gd_f (q1 ?b32_1 A W 62 hf) (fun hc => Q01 (a0 := a31) (r0 hf))
  refine ocg 62 ?_ (fun A W hx hf => ?_) ?_
  rfl
  exact gd_f (q1 ?b32_1 A W 62 hf) (fun hc => Q01 (a0 := a31) (r0 hf))
  refine ocg 62 ?_ (fun A W hx hf => ?_) ?_
  rfl
  exact gd_f (q2 ?b32_1 A W 62 hf) (fun hc => Q0t Qev (Qew (OwnBA.bs (p2 s8 e_w21 hx (G.get (q0 ?b32_3 A W 63 hf) hc))) (OwnBA.bs (p1 s11 hx (G.get (q1 ?b32_4 A W 64 hf) hc)))))
  apply oc0; intro A W hx hf
  exact Q4k (q0 ?b32_1 A W 62 hf) (q1 ?b32_5 A W 65 hf)
  apply oc0; intro A W hx hf
  exact Q03 (q0 ?b32_6 A W 66 hf)
  exact onn
 case t32 => exact inferInstance
 clear hr; intro a33 w33 x hr hd hs
 clear s8 s9 s11
 have s6 := fa ?b32_6 a33 w33 6 (hd 7 6 rfl)
 replace e_w := e_w.trans x
 clear e_w21; clear hd hs x
 refine et ?_
 refine wp_ret ?_
 refine Q14 Try.results8 hr e_w ?_
 first | with_reducible exact s6 | exact Is.bool s6 (by rw [Qby]; simp)

end Go.Proofs.Ytlmdboaghojgiaa
