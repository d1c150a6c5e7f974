import Derived.Test.YtlmdboaghojgiaaC09
namespace Go.Proofs.Ytlmdboaghojgiaa
open Go.RowKit
set_option linter.unusedVariables false
set_option linter.unusedSimpArgs false
set_option maxRecDepth 4000
def Qfa : List Tmp := [4, 5, 23, 24, 25, 26, 27, 28, 29, 30, 31, 32, 33, 34]
def Qfb : List Tmp := [4, 6, 35, 36, 37, 38, 39, 40, 41, 42, 43, 44, 45, 46]
theorem Qor {x0 : Value} {w : World} {H : SixL} {B : Nat} (h0 : (Is (SixV H)) x0 w) (hH : Q7w H) (ht9 : 40 ≤ H.total ∧ H.total ≤ 65575) (hB : B ≤ w.heap.size) :
    Calls Try.prog 34 #[x0] w (Ret (OwnB B 5 (Q4z H)) w) := by
 have hs16 := hH.1
 have hd16 := hH.2
 refine enter Try.func34 rfl Try.ntmps34 (k := 1) rfl (by decide) (fun a0 hr hargs => ?_)
 have s0 := sarg h0 (hargs 0 (by decide))
 clear hargs
 refine sq ?_
 refine Q04 48 [[(0, none)], []] [?b1_0, ?b1_1] Q08 hr ?t1 ?o1 ?_
 case o1 =>
  apply oc0; intro A W hx hf
  exact Q1y (Q2r H) [1, 1, 1, 1, 1, 1, 1, 16, 1, 16] (Is.conv (o1 s0 hx (r0 hf)) (show _ = Value.agg (Q2r H).flatten.toArray from by rw [Qac]; rfl)) (by exact Q8l hH) hx.size
  apply oc0; intro A W hx hf
  exact Q1l (OwnBA 0 w.heap.size 5 []) (fun _ => Q2o)
  exact onn
 case t1 => exact inferInstance
 clear hr; intro a2 w2 x hr hd hs
 clear s0
 have s1 := fa ?b1_0 a2 w2 1 (hd 0 1 rfl)
 obtain ⟨g2_1, q2_1⟩ := PxN.at s1; clear s1; have n2_1 := PxS.lt q2_1
 have s1 := q2_1; clear q2_1
 have e_w := x; clear hd hs x
 refine es ?_
 refine Q04 48 [[(1, none)], [(7, some 0)], [(8, some 1)], [(9, some 2)]] [?b3_0, ?b3_1, ?b3_2, ?b3_2] Q08 hr ?t3 ?o3 ?_
 case o3 =>
  apply oc0; intro A W hx hf
  exact Q02 1 tu62 (k := 1) rfl Q0m rfl (o1 s1 hx (r0 hf)) rfl
  apply oc0; intro A W hx hf
  exact Q0a tu3 rfl (q0 ?b3_0 A W 7 hf) rfl
  apply oc0; intro A W hx hf
  exact Q9i (q0 ?b3_1 A W 8 hf) (ec A (.int .i64 40)) (by omega)
  apply oc0; intro A W hx hf
  exact Q03 (q0 ?b3_2 A W 9 hf)
  exact onn
 case t3 => exact inferInstance
 clear hr; intro a4 w4 x hr hd hs
 revert s1; refine kp1 hs rfl ?_; intro s1
 have s3 := fa ?b3_2 a4 w4 3 (hd 3 3 rfl)
 replace e_w := e_w.trans x
 have e_w2 := x; clear hd hs x
 refine es ?_
 refine Q04 48 [[(3, none)], [(10, some 0)], [(11, some 1)], [(3, none)], [(13, some 3)], [(14, some 4)], [(1, none)], [(16, some 6)], [(17, some 7)], [(1, none)], [(19, some 9)], [(20, some 10)], [(12, some 2), (15, some 5), (18, some 8), (21, some 11)], [(22, some 12)]] [?b5_0, ?b5_1, ?b5_2, ?b5_3, ?b5_4, ?b5_5, ?b5_6, ?b5_7, ?b5_8, ?b5_9, ?b5_10, ?b5_11, ?b5_12, ?b5_12] Q08 hr ?t5 ?o5 ?_
 case o5 =>
  apply oc0; intro A W hx hf
  exact Q01 (a0 := a4) (r0 hf)
  apply oc0; intro A W hx hf
  exact Q4u (by decide) (p1 s3 hx (q0 ?b5_0 A W 10 hf)) (ec A (.int .i64 256))
  apply oc0; intro A W hx hf
  exact Q15 tu3 tu5 (q0 ?b5_1 A W 11 hf)
  apply oc0; intro A W hx hf
  exact Q01 (a0 := a4) (r0 hf)
  apply oc0; intro A W hx hf
  exact Q4v (by decide) (p1 s3 hx (q0 ?b5_3 A W 13 hf)) (ec A (.int .i64 256))
  apply oc0; intro A W hx hf
  exact Q15 tu3 tu5 (q0 ?b5_4 A W 14 hf)
  apply oc0; intro A W hx hf
  exact Q02 5 tu62 (k := 5) rfl Q0m rfl (o2 s1 e_w2 hx (r0 hf)) rfl
  apply oc0; intro A W hx hf
  exact Q0a tu3 rfl (q0 ?b5_6 A W 16 hf) rfl
  apply oc0; intro A W hx hf
  exact Q15 tu3 tu5 (q0 ?b5_7 A W 17 hf)
  apply oc0; intro A W hx hf
  exact Q02 2 tu62 (k := 2) rfl Q0m rfl (o2 s1 e_w2 hx (r0 hf)) rfl
  apply oc0; intro A W hx hf
  exact Q0a tu3 rfl (q0 ?b5_9 A W 19 hf) rfl
  apply oc0; intro A W hx hf
  exact Q15 tu3 tu5 (q0 ?b5_10 A W 20 hf)
  apply oc0; intro A W hx hf
  exact Q3c [(.const (.int .u8 96)), (.const (.int .u8 0)), (.const (.int .u8 0)), (.const (.int .u8 0)), (.tmp 12), (.tmp 15), (.tmp 18), (.tmp 21)] [_, _, _, _, _, _, _, _] tu22 Q0s Q45 rfl rfl (by decide) hx.size (PartsOk.cons (show ByteIs 96 _ _ from rfl) (PartsOk.cons (show ByteIs 0 _ _ from rfl) (PartsOk.cons (show ByteIs 0 _ _ from rfl) (PartsOk.cons (show ByteIs 0 _ _ from rfl) (PartsOk.cons (q0 ?b5_2 A W 12 hf) (PartsOk.cons (q1 ?b5_5 A W 15 hf) (PartsOk.cons (q2 ?b5_8 A W 18 hf) (PartsOk.cons (q3 ?b5_11 A W 21 hf) (PartsOk.nil)))))))))
  apply oc0; intro A W hx hf
  exact Q03 (q0 ?b5_12 A W 22 hf)
  exact onn
 case t5 => exact inferInstance
 clear hr; intro a6 w6 x hr hd hs
 have z_w_w4 := e_w.size
 have z_w2_w4 := e_w2.size
 have l6_1 := PxS.lt (Q00 e_w2 s1)
 revert s1; refine kp1 hs rfl ?_; intro s1
 clear s3
 have s4 := fa ?b5_12 a6 w6 4 (hd 13 4 rfl)
 obtain ⟨g6_4, q6_4⟩ := OwnB.at s4; clear s4; have n6_4 := OwnBA.lt q6_4
 replace q6_4 := OwnBA.mono q6_4 e_w.size
 have s4 := q6_4; clear q6_4
 replace e_w := e_w.trans x
 replace e_w2 := e_w2.trans x; clear hd hs x
 replace s4 := OwnBA.cast s4 (show _ = [96, 0, 0, 0] ++ put2 (H.total - 40) ++ [b8 H.proto, b8 H.hop] from by rw [Q52 (n := H.total - 40) (by omega), Q53 (n := H.total - 40) (by omega), show ((2 : Int) ^ 8) = 256 from rfl]; rfl)
 refine es ?_
 refine sq ?_
 refine Q04 48 [[]] [?b7_0] Q08 hr ?t7 ?o7 ?_
 case o7 =>
  apply oc0; intro A W hx hf
  exact Q05
  exact onn
 case t7 => exact inferInstance
 clear hr; intro a8 w8 x hr hd hs
 revert s4; revert s1; refine kp2 hs rfl ?_; intro s1 s4
 have s5 := fa ?b7_0 a8 w8 5 (hd 0 5 rfl)
 replace e_w := e_w.trans x
 replace e_w2 := e_w2.trans x
 have e_w6 := x; clear hd hs x
 refine et ?_
 refine wp_block ?_
 refine Q14 (fun n A W => ∃ (i β : Nat), n = 16 - i ∧ Fr 48 A ∧ Same Qfa a8 A ∧ Ext w W ∧ (i ≤ 16) ∧ (g2_1 ≠ β) ∧ (PxS g2_1 w.heap.size [1, 1, 1, 1, 1, 1, 1, 16, 1, 16] (Q2r H) 0) (A.eval (.tmp 1)) W ∧ (OwnBA β w.heap.size 5 ([96, 0, 0, 0] ++ put2 (H.total - 40) ++ [b8 H.proto, b8 H.hop] ++ H.src.b.take i)) (A.eval (.tmp 4)) W ∧ (Is (.int .i64 (i : Int))) (A.eval (.tmp 5)) W) ?start9 ?_
 case start9 =>
  refine ⟨_, 0, g6_4, rfl, hr, Same.rfl, e_w, (by first | assumption | omega), (by first | assumption | omega), ?_, ?_, ?_⟩
  · exact (Q00 e_w2 s1)
  · exact OwnBA.cast (Q00 e_w6 s4) (by simp)
  · first | exact s5 | exact Is.int s5 (by first | omega | simp) | exact Is.bool s5 (by first | omega | simp)
 intro n9 a9 w9 hI
 clear e_w
 clear e_w2
 clear e_w6
 clear hr; obtain ⟨i, β, hn9, hr, hs, e_w, hi, ne1, u1, u4, u5⟩ := hI
 clear s1 s4 s5
 have s1 := u1; clear u1
 have s4 := u4; clear u4
 have s5 := u5; clear u5
 have m9 := hs; clear hs
 refine sq ?_
 refine sq ?_
 refine Q04 48 [[(5, none)], [(23, some 0)]] [?b10_0, ?b10_1] Q08 hr ?t10 ?o10 ?_
 case o10 =>
  apply oc0; intro A W hx hf
  exact Q01 (a0 := a9) (r0 hf)
  apply oc0; intro A W hx hf
  exact Q1b (p1 s5 hx (q0 ?b10_0 A W 23 hf)) (ec A (.int .i64 16))
  exact onn
 case t10 => exact inferInstance
 clear hr; intro a11 w11 x hr hd hs
 revert s5; revert s4; revert s1; refine kp3 hs rfl ?_; intro s1 s4 s5
 have s24 := fa ?b10_1 a11 w11 24 (hd 1 24 rfl)
 replace e_w := e_w.trans x
 have e_w9 := x
 replace m9 := m9.tr hs rfl; clear hd hs x
 refine et ?_
 refine wp_cond_split (show _ = _ from s24) (fun hlt => ?_) (fun hlt => ?_)
 ·
  have hlt : i < 16 := by simp at hlt; omega
  refine wp_skip ?_
  refine es ?_
  refine wp_block ?_
  refine Q06 (l := [_, _, _, _, _, _, _]) (rest := [_, _]) 48 [[(4, none)], [(5, none)], [(1, none)], [(29, some 2)], [(30, some 3), (28, some 1)], [(31, some 4)], [(32, some 5)]] [?b13_0, ?b13_1, ?b13_2, ?b13_3, ?b13_4, ?b13_5, ?b13_6] hr ?t13 ?o13 ?_
  case o13 =>
   apply oc0; intro A W hx hf
   exact Q01 (a0 := a11) (r0 hf)
   apply oc0; intro A W hx hf
   exact Q01 (a0 := a11) (r0 hf)
   apply oc0; intro A W hx hf
   exact Q02 6 tu62 (k := 6) rfl Q0z rfl (o2 s1 e_w9 hx (r0 hf)) rfl
   apply oc0; intro A W hx hf
   exact Q02 7 tu25 (k := 1) rfl Q61 rfl (q0 ?b13_2 A W 29 hf) rfl
   apply oc0; intro A W hx hf
   exact Q4f (_) tu23 Q0s (q0 ?b13_3 A W 30 hf) (p2 s5 e_w9 hx (q1 ?b13_1 A W 28 hf)) rfl (by omega)
   apply oc0; intro A W hx hf
   exact Q5n tu5 rfl (q0 ?b13_4 A W 31 hf) rfl (by first | omega | (simp; omega) | (simp [*]; omega))
   apply oc0; intro A W hx hf
   exact Q21 [(.tmp 32)] [_] tu22 Q0s Q45 rfl rfl (by decide) (PartsOk.cons (q0 ?b13_5 A W 32 hf) (PartsOk.nil))
   exact onn
  case t13 => exact inferInstance
  clear hr; intro a14 w14 x hr hd hs
  have u27 := mv s4 (fa ?b13_0 a14 w14 27 (hd 0 27 rfl))
  revert s5; revert s4; revert s1; refine kp3 hs rfl ?_; intro s1 s4 s5
  clear s24
  have s27 := u27; clear u27
  have s33 := fa ?b13_6 a14 w14 33 (hd 6 33 rfl)
  replace e_w := e_w.trans x
  replace e_w9 := e_w9.trans x
  replace m9 := m9.tr hs rfl; clear hd hs x
  have l15 := OwnBA.lt (Q00 e_w9 s27)
  have l15_1 := PxS.lt (Q00 e_w9 s1)
  refine Q0u hr (by decide) tu22 Q3u rfl (Q00 e_w9 s27) s33 e_w.size (by first | (simp [Q0d]; done) | (simp [Q0d]; omega)) ?_; clear hr; intro g15 a15 w15 hg15 hc hr hd hs
  have hb := hc.below e_w.size l15.1
  revert s5; revert s1; refine kp2 hs rfl ?_; intro s1 s5
  clear s4 s27 s33
  replace s1 := PxS.other (Q00 e_w9 s1) hc (by omega)
  have s34 := hd
  replace e_w := e_w.below (Nat.le_refl _) hb
  clear e_w9
  replace s5 := anyw (w2 := w15) s5
  replace m9 := m9.tr hs rfl
  clear hd hs hb hc
  refine Q11 hr (Q03 s34) inferInstance ?_; clear hr; intro a16 w16 x hr hd hs
  revert s5; revert s1; refine kp2 hs rfl ?_; intro s1 s5
  clear s34
  have s4 := hd 4 rfl (by decide)
  replace e_w := e_w.trans x
  have e_w15 := x
  replace m9 := m9.tr hs rfl; clear hd hs x
  refine wpList_nil ?_
  refine Q0x ?_
  refine et ?_
  refine Q04 48 [[(5, none)], [(25, some 0)], [(26, some 1)]] [?b17_0, ?b17_1, ?b17_1] Q08 hr ?t17 ?o17 ?_
  case o17 =>
   apply oc0; intro A W hx hf
   exact Q01 (a0 := a16) (r0 hf)
   apply oc0; intro A W hx hf
   exact Q0o (p2 s5 e_w15 hx (q0 ?b17_0 A W 25 hf)) (ec A (.int .i64 1)) (by omega)
   apply oc0; intro A W hx hf
   exact Q03 (q0 ?b17_1 A W 26 hf)
   exact onn
  case t17 => exact inferInstance
  clear hr; intro a18 w18 x hr hd hs
  revert s4; revert s1; refine kp2 hs rfl ?_; intro s1 s4
  clear s5
  have s5 := fa ?b17_1 a18 w18 5 (hd 2 5 rfl)
  replace e_w := e_w.trans x
  replace e_w15 := e_w15.trans x
  have e_w16 := x
  replace m9 := m9.tr hs rfl; clear hd hs x
  refine et ?_
  refine ⟨(fun (i β : Nat) => 16 - i) (i + 1) (0), ?_, ?_⟩
  · (try dsimp only); omega
  refine ⟨i + 1, g15, rfl, hr, m9, e_w, (by first | assumption | omega), (by first | assumption | omega), ?_, ?_, ?_⟩
  · exact (Q00 e_w15 s1)
  · exact OwnBA.cast (Q00 e_w16 s4) (by rw [Q3n (l := H.src.b) (by omega), ← List.append_assoc])
  · first | exact s5 | exact Is.int s5 (by first | omega | simp) | exact Is.bool s5 (by first | omega | simp)
 have hlt : i = 16 := by simp at hlt; omega
 subst hlt
 refine wp_exit ?_
 refine Q0g ?_
 refine Q0g ?_
 refine Q1a ?_
 refine es ?_
 refine sq ?_
 refine Q04 48 [[]] [?b19_0] Q08 hr ?t19 ?o19 ?_
 case o19 =>
  apply oc0; intro A W hx hf
  exact Q05
  exact onn
 case t19 => exact inferInstance
 clear hr; intro a20 w20 x hr hd hs
 revert s4; revert s1; refine kp2 hs rfl ?_; intro s1 s4
 clear s5 s24
 have s6 := fa ?b19_0 a20 w20 6 (hd 0 6 rfl)
 replace e_w := e_w.trans x
 replace e_w9 := e_w9.trans x; clear hd hs x
 refine et ?_
 refine wp_block ?_
 refine Q14 (fun n A W => ∃ (j β : Nat), n = 16 - j ∧ Fr 48 A ∧ Same Qfb a20 A ∧ Ext w W ∧ (j ≤ 16) ∧ (g2_1 ≠ β) ∧ (PxS g2_1 w.heap.size [1, 1, 1, 1, 1, 1, 1, 16, 1, 16] (Q2r H) 0) (A.eval (.tmp 1)) W ∧ (OwnBA β w.heap.size 5 ([96, 0, 0, 0] ++ put2 (H.total - 40) ++ [b8 H.proto, b8 H.hop] ++ H.src.b.take 16 ++ H.dst.b.take j)) (A.eval (.tmp 4)) W ∧ (Is (.int .i64 (j : Int))) (A.eval (.tmp 6)) W) ?start21 ?_
 case start21 =>
  refine ⟨_, 0, β, rfl, hr, Same.rfl, e_w, (by first | assumption | omega), (by first | assumption | omega), ?_, ?_, ?_⟩
  · exact (Q00 e_w9 s1)
  · exact OwnBA.cast (Q00 e_w9 s4) (by simp)
  · first | exact s6 | exact Is.int s6 (by first | omega | simp) | exact Is.bool s6 (by first | omega | simp)
 intro n21 a21 w21 hI
 clear e_w
 clear e_w9
 clear hr; obtain ⟨j, β, hn21, hr, hs, e_w, hj, ne2, u1, u4, u6⟩ := hI
 clear s1 s4 s6
 have s1 := u1; clear u1
 have s4 := u4; clear u4
 have s6 := u6; clear u6
 have m21 := hs; clear hs
 refine sq ?_
 refine sq ?_
 refine Q04 48 [[(6, none)], [(35, some 0)]] [?b22_0, ?b22_1] Q08 hr ?t22 ?o22 ?_
 case o22 =>
  apply oc0; intro A W hx hf
  exact Q01 (a0 := a21) (r0 hf)
  apply oc0; intro A W hx hf
  exact Q1b (p1 s6 hx (q0 ?b22_0 A W 35 hf)) (ec A (.int .i64 16))
  exact onn
 case t22 => exact inferInstance
 clear hr; intro a23 w23 x hr hd hs
 revert s6; revert s4; revert s1; refine kp3 hs rfl ?_; intro s1 s4 s6
 have s36 := fa ?b22_1 a23 w23 36 (hd 1 36 rfl)
 replace e_w := e_w.trans x
 have e_w21 := x
 replace m21 := m21.tr hs rfl; clear hd hs x
 refine et ?_
 refine wp_cond_split (show _ = _ from s36) (fun hlt => ?_) (fun hlt => ?_)
 ·
  have hlt : j < 16 := by simp at hlt; omega
  refine wp_skip ?_
  refine es ?_
  refine wp_block ?_
  refine Q06 (l := [_, _, _, _, _, _, _]) (rest := [_, _]) 48 [[(4, none)], [(6, none)], [(1, none)], [(41, some 2)], [(42, some 3), (40, some 1)], [(43, some 4)], [(44, some 5)]] [?b25_0, ?b25_1, ?b25_2, ?b25_3, ?b25_4, ?b25_5, ?b25_6] hr ?t25 ?o25 ?_
  case o25 =>
   apply oc0; intro A W hx hf
   exact Q01 (a0 := a23) (r0 hf)
   apply oc0; intro A W hx hf
   exact Q01 (a0 := a23) (r0 hf)
   apply oc0; intro A W hx hf
   exact Q02 8 tu62 (k := 7) rfl Q0z rfl (o2 s1 e_w21 hx (r0 hf)) rfl
   apply oc0; intro A W hx hf
   exact Q02 9 tu25 (k := 1) rfl Q61 rfl (q0 ?b25_2 A W 41 hf) rfl
   apply oc0; intro A W hx hf
   exact Q4f (_) tu23 Q0s (q0 ?b25_3 A W 42 hf) (p2 s6 e_w21 hx (q1 ?b25_1 A W 40 hf)) rfl (by omega)
   apply oc0; intro A W hx hf
   exact Q5n tu5 rfl (q0 ?b25_4 A W 43 hf) rfl (by first | omega | (simp; omega) | (simp [*]; omega))
   apply oc0; intro A W hx hf
   exact Q21 [(.tmp 44)] [_] tu22 Q0s Q45 rfl rfl (by decide) (PartsOk.cons (q0 ?b25_5 A W 44 hf) (PartsOk.nil))
   exact onn
  case t25 => exact inferInstance
  clear hr; intro a26 w26 x hr hd hs
  have u39 := mv s4 (fa ?b25_0 a26 w26 39 (hd 0 39 rfl))
  revert s6; revert s4; revert s1; refine kp3 hs rfl ?_; intro s1 s4 s6
  clear s36
  have s39 := u39; clear u39
  have s45 := fa ?b25_6 a26 w26 45 (hd 6 45 rfl)
  replace e_w := e_w.trans x
  replace e_w21 := e_w21.trans x
  replace m21 := m21.tr hs rfl; clear hd hs x
  have l27 := OwnBA.lt (Q00 e_w21 s39)
  have l27_1 := PxS.lt (Q00 e_w21 s1)
  refine Q0u hr (by decide) tu22 Q3u rfl (Q00 e_w21 s39) s45 e_w.size (by first | (simp [Q0d]; done) | (simp [Q0d]; omega)) ?_; clear hr; intro g27 a27 w27 hg27 hc hr hd hs
  have hb := hc.below e_w.size l27.1
  revert s6; revert s1; refine kp2 hs rfl ?_; intro s1 s6
  clear s4 s39 s45
  replace s1 := PxS.other (Q00 e_w21 s1) hc (by omega)
  have s46 := hd
  replace e_w := e_w.below (Nat.le_refl _) hb
  clear e_w21
  replace s6 := anyw (w2 := w27) s6
  replace m21 := m21.tr hs rfl
  clear hd hs hb hc
  refine Q11 hr (Q03 s46) inferInstance ?_; clear hr; intro a28 w28 x hr hd hs
  revert s6; revert s1; refine kp2 hs rfl ?_; intro s1 s6
  clear s46
  have s4 := hd 4 rfl (by decide)
  replace e_w := e_w.trans x
  have e_w27 := x
  replace m21 := m21.tr hs rfl; clear hd hs x
  refine wpList_nil ?_
  refine Q0x ?_
  refine et ?_
  refine Q04 48 [[(6, none)], [(37, some 0)], [(38, some 1)]] [?b29_0, ?b29_1, ?b29_1] Q08 hr ?t29 ?o29 ?_
  case o29 =>
   apply oc0; intro A W hx hf
   exact Q01 (a0 := a28) (r0 hf)
   apply oc0; intro A W hx hf
   exact Q0o (p2 s6 e_w27 hx (q0 ?b29_0 A W 37 hf)) (ec A (.int .i64 1)) (by omega)
   apply oc0; intro A W hx hf
   exact Q03 (q0 ?b29_1 A W 38 hf)
   exact onn
  case t29 => exact inferInstance
  clear hr; intro a30 w30 x hr hd hs
  revert s4; revert s1; refine kp2 hs rfl ?_; intro s1 s4
  clear s6
  have s6 := fa ?b29_1 a30 w30 6 (hd 2 6 rfl)
  replace e_w := e_w.trans x
  replace e_w27 := e_w27.trans x
  have e_w28 := x
  replace m21 := m21.tr hs rfl; clear hd hs x
  refine et ?_
  refine ⟨(fun (j β : Nat) => 16 - j) (j + 1) (0), ?_, ?_⟩
  · (try dsimp only); omega
  refine ⟨j + 1, g27, rfl, hr, m21, e_w, (by first | assumption | omega), (by first | assumption | omega), ?_, ?_, ?_⟩
  · exact (Q00 e_w27 s1)
  · exact OwnBA.cast (Q00 e_w28 s4) (by rw [Q3n (l := H.dst.b) (by omega), ← List.append_assoc])
  · first | exact s6 | exact Is.int s6 (by first | omega | simp) | exact Is.bool s6 (by first | omega | simp)
 have hlt : j = 16 := by simp at hlt; omega
 subst hlt
 refine wp_exit ?_
 refine Q0g ?_
 refine Q0g ?_
 refine Q1a ?_
 refine es ?_
 refine Q04 48 [[(4, none)], [(47, some 0)]] [?b31_0, ?b31_0] Q08 hr ?t31 ?o31 ?_
 case o31 =>
  apply oc0; intro A W hx hf
  exact Q01 (a0 := a23) (r0 hf)
  apply oc0; intro A W hx hf
  exact Q03 (q0 ?b31_0 A W 47 hf)
  exact onn
 case t31 => exact inferInstance
 clear hr; intro a32 w32 x hr hd hs
 have u2 := mv s4 (fa ?b31_0 a32 w32 2 (hd 1 2 rfl))
 clear s1 s4 s6 s36
 have s2 := u2; clear u2
 replace e_w := e_w.trans x
 replace e_w21 := e_w21.trans x; clear hd hs x
 refine et ?_
 refine wp_ret ?_
 refine Q0r Try.results34 hr e_w ?_
 exact OwnB.cast (OwnB.mono (Q00 e_w21 s2).own hB) (by rw [List.take_of_length_le (by omega), List.take_of_length_le (by omega)]; simp [Q4z])

end Go.Proofs.Ytlmdboaghojgiaa
