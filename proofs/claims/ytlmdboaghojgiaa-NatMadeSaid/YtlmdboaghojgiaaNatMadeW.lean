import Derived.Test.YtlmdboaghojgiaaA12
import Derived.Test.YtlmdboaghojgiaaE12L
import Derived.Test.YtlmdboaghojgiaaC11x
namespace Go.Proofs.Ytlmdboaghojgiaa
open Go.RowKit
set_option linter.unusedVariables false
set_option linter.unusedSimpArgs false
set_option maxRecDepth 4000
set_option maxHeartbeats 2000000 in
theorem Qe5 {x0 x1 x2 x3 x4 x5 : Value} {w : World} {L : LinkL} {T : TupL} {f n : Int} {load : List UInt8} {Sa : Adr} (h0 : (LinkV L) x0 w) (h1 : (Is (TupV T)) x1 w) (h2 : (Is (.int .i64 f)) x2 w) (h3 : (Bs load) x3 w) (h4 : (Is (AdrV Sa)) x4 w) (h5 : (Is (.int .i64 n)) x5 w) (hL : Q2i L) (hT9 : Q3f T) (hA : Sa.b.length = 16) :
    Calls Try.prog 6 #[x0, x1, x2, x3, x4, x5] w (Ret (Is (.bool true)) w) := by
 obtain ⟨v, eh0, hT, hvh0⟩ := h0
 replace h0 : Is (LnkA L v) x0 w := eh0
 have hll := Bs.len_le h3
 refine enter Try.func6 rfl Try.ntmps6 (k := 6) rfl (by decide) (fun a0 hr hargs => ?_)
 have s0 := sarg h0 (hargs 0 (by decide))
 have s1 := sarg h1 (hargs 1 (by decide))
 have s2 := sarg h2 (hargs 2 (by decide))
 have s3 := sarg h3 (hargs 3 (by decide))
 have s4 := sarg h4 (hargs 4 (by decide))
 have s5 := sarg h5 (hargs 5 (by decide))
 clear hargs
 refine sq ?_
 refine Q06 (l := [_]) (rest := [_, _, _]) 116 [[(0, none)]] [?b1_0] hr ?t1 ?o1 ?_
 case o1 =>
  apply oc0; intro A W hx hf
  exact Q1y (lnkS L v) [6, 6, 1, 1, 1] (o1 s0 hx (r0 hf)) (by exact Q4l hL) hx.size
  exact onn
 case t1 => exact inferInstance
 clear hr; intro a2 w2 x hr hd hs
 revert s5; revert s4; revert s3; revert s2; revert s1; refine kp5 hs rfl ?_; intro s1 s2 s3 s4 s5
 clear s0
 have s6 := fa ?b1_0 a2 w2 6 (hd 0 6 rfl)
 obtain ⟨g2_6, q2_6⟩ := PxN.at s6; clear s6; have n2_6 := PxS.lt q2_6
 have s6 := q2_6; clear q2_6
 have e_w := x; clear hd hs x
 have l3_6 := PxS.lt s6
 refine Q11 hr (Q1y (tupS T) [1, 16, 1, 16, 1, 1, 1] (Q00 e_w s1) (by exact Q39 hT9) (Nat.le_refl _)) inferInstance ?_; clear hr; intro a3 w3 x hr hd hs
 revert s6; revert s5; revert s4; revert s3; revert s2; refine kp5 hs rfl ?_; intro s2 s3 s4 s5 s6
 clear s1
 have s7 := hd 7 rfl (by decide)
 obtain ⟨g3_7, q3_7⟩ := PxN.at s7; clear s7; have n3_7 := PxS.lt q3_7
 replace q3_7 := PxS.mono q3_7 e_w.size
 have s7 := q3_7; clear q3_7
 replace e_w := e_w.trans x
 have e_w2 := x; clear hd hs x
 have l4_6 := PxS.lt (Q00 e_w2 s6)
 have l4_7 := PxS.lt s7
 refine Q11 hr (Q1y [[.bool Sa.six], Sa.b.map Q0t] [1, 16] (Is.conv (Q00 e_w s4) (Q1o Sa).symm) (by simp [*]) (Nat.le_refl _)) inferInstance ?_; clear hr; intro a4 w4 x hr hd hs
 revert s7; revert s6; revert s5; revert s3; revert s2; refine kp5 hs rfl ?_; intro s2 s3 s5 s6 s7
 clear s4
 have s10 := hd 10 rfl (by decide)
 obtain ⟨g4_10, q4_10⟩ := PxN.at s10; clear s10; have n4_10 := PxS.lt q4_10
 replace q4_10 := PxS.mono q4_10 e_w.size
 have s10 := q4_10; clear q4_10
 replace e_w := e_w.trans x
 replace e_w2 := e_w2.trans x
 have e_w3 := x; clear hd hs x
 refine Q11 hr (Q05) inferInstance ?_; clear hr; intro a5 w5 x hr hd hs
 revert s10; revert s7; revert s6; revert s5; revert s3; revert s2; refine kp6 hs rfl ?_; intro s2 s3 s5 s6 s7 s10
 replace e_w := e_w.trans x
 replace e_w2 := e_w2.trans x
 replace e_w3 := e_w3.trans x
 have e_w4 := x; clear hd hs x
 refine wpList_nil ?_
 refine es ?_
 refine sq ?_
 refine Q04 116 [[], [(20, some 0)], [(21, some 1)], [(6, none), (22, some 2)], [(23, some 3), (22, some 2)], [(24, some 4), (22, some 2)], [(25, some 5), (22, some 2)], [(22, some 2), (26, some 6)], [(27, some 7)], [(3, none), (28, some 8)], [(29, some 9), (28, some 8)], [(30, some 10), (28, some 8)], [(28, some 8), (31, some 11)], [(32, some 12)], [(6, none), (33, some 13)], [(7, none), (33, some 13)], [(2, none), (33, some 13)], [(3, none), (33, some 13)], [(37, some 17), (33, some 13)], [(34, some 14), (35, some 15), (36, some 16), (38, some 18), (33, some 13)], [(39, some 19), (33, some 13)], [(33, some 13), (40, some 20)]] [?b6_0, ?b6_1, ?b6_1, ?b6_3, ?b6_4, ?b6_5, ?b6_6, ?b6_7, ?b6_7, ?b6_9, ?b6_10, ?b6_11, ?b6_12, ?b6_12, ?b6_14, ?b6_15, ?b6_16, ?b6_17, ?b6_18, ?b6_19, ?b6_20, ?b6_21] Q08 hr ?t6 ?o6 ?_
 case o6 =>
  apply oc0; intro A W hx hf
  exact Qbr Qqf (Qdx )
  apply oc0; intro A W hx hf
  exact Q43 (q0 ?b6_0 A W 20 hf)
  apply oc0; intro A W hx hf
  exact Q0h (q0 ?b6_1 A W 21 hf)
  refine ocg 22 ?_ (fun A W hx hf => ?_) ?_
  rfl
  exact gd_f (q1 ?b6_1 A W 22 hf) (fun hc => Q02 2 tu46 (k := 2) rfl Q62 rfl (o2 s6 e_w2 hx (r0 hf)) rfl)
  refine ocg 22 ?_ (fun A W hx hf => ?_) ?_
  rfl
  exact gd_f (q1 ?b6_1 A W 22 hf) (fun hc => Qaw (Q0a tu44 rfl (G.get (q0 ?b6_3 A W 23 hf) hc) rfl) (Q00 (e_w.trans hx) hT))
  refine ocg 22 ?_ (fun A W hx hf => ?_) ?_
  rfl
  exact gd_f (q1 ?b6_1 A W 22 hf) (fun hc => Q6a tu44 (G.get (q0 ?b6_4 A W 24 hf) hc))
  refine ocg 22 ?_ (fun A W hx hf => ?_) ?_
  rfl
  exact gd_f (q1 ?b6_1 A W 22 hf) (fun hc => Q3m (G.get (q0 ?b6_5 A W 25 hf) hc) (ec A (.int .i64 100)))
  apply oc0; intro A W hx hf
  exact Q3o (q0 ?b6_1 A W 22 hf) (q1 ?b6_6 A W 26 hf)
  apply oc0; intro A W hx hf
  exact Q0h (q0 ?b6_7 A W 27 hf)
  refine ocg 28 ?_ (fun A W hx hf => ?_) ?_
  rfl
  exact gd_f (q1 ?b6_7 A W 28 hf) (fun hc => Q01 (a0 := a5) (r0 hf))
  refine ocg 28 ?_ (fun A W hx hf => ?_) ?_
  rfl
  exact gd_f (q1 ?b6_7 A W 28 hf) (fun hc => Q0v tu22 (p2 s3 e_w hx (G.get (q0 ?b6_9 A W 29 hf) hc)))
  refine ocg 28 ?_ (fun A W hx hf => ?_) ?_
  rfl
  exact gd_f (q1 ?b6_7 A W 28 hf) (fun hc => Q3m (G.get (q0 ?b6_10 A W 30 hf) hc) (ec A (.int .i64 500)))
  apply oc0; intro A W hx hf
  exact Q3o (q0 ?b6_7 A W 28 hf) (q1 ?b6_11 A W 31 hf)
  apply oc0; intro A W hx hf
  exact Q0h (q0 ?b6_12 A W 32 hf)
  refine ocg 33 ?_ (fun A W hx hf => ?_) ?_
  rfl
  exact gd_f (q1 ?b6_12 A W 33 hf) (fun hc => Q0b 5 tu46 rfl Q2v (o2 s6 e_w2 hx (r0 hf)) rfl)
  refine ocg 33 ?_ (fun A W hx hf => ?_) ?_
  rfl
  exact gd_f (q1 ?b6_12 A W 33 hf) (fun hc => Q0b 7 tu35 rfl Q37 (o2 s7 e_w3 hx (r0 hf)) rfl)
  refine ocg 33 ?_ (fun A W hx hf => ?_) ?_
  rfl
  exact gd_f (q1 ?b6_12 A W 33 hf) (fun hc => Q01 (a0 := a5) (r0 hf))
  refine ocg 33 ?_ (fun A W hx hf => ?_) ?_
  rfl
  exact gd_f (q1 ?b6_12 A W 33 hf) (fun hc => Q01 (a0 := a5) (r0 hf))
  refine ocg 33 ?_ (fun A W hx hf => ?_) ?_
  rfl
  exact gd_f (q1 ?b6_12 A W 33 hf) (fun hc => Q0v tu22 (p2 s3 e_w hx (G.get (q0 ?b6_17 A W 37 hf) hc)))
  refine ocg 33 ?_ (fun A W hx hf => ?_) ?_
  rfl
  exact gd_f (q4 ?b6_12 A W 33 hf) (fun hc => Q3p Qph (Qlu (LinkV.of (show Is (LnkA L v) _ _ from (G.get (q0 ?b6_14 A W 34 hf) hc)) (Q00 (e_w.trans hx) hT)) (show Is (TupV T) _ _ from (G.get (q1 ?b6_15 A W 35 hf) hc)) (p2 s2 e_w hx (G.get (q2 ?b6_16 A W 36 hf) hc)) (G.get (q3 ?b6_18 A W 38 hf) hc) (by exact hL) (by exact hT9) (by have h9 := hc; simp at h9; omega)))
  refine ocg 33 ?_ (fun A W hx hf => ?_) ?_
  rfl
  exact gd_f (q1 ?b6_12 A W 33 hf) (fun hc => Q48 (G.get (q0 ?b6_19 A W 39 hf) hc) (ec A (.int .i64 0)))
  apply oc0; intro A W hx hf
  exact Q3o (q0 ?b6_12 A W 33 hf) (q1 ?b6_20 A W 40 hf)
  exact onn
 case t6 => exact inferInstance
 clear hr; intro a7 w7 x hr hd hs
 revert s10; revert s7; revert s6; revert s5; revert s3; revert s2; refine kp6 hs rfl ?_; intro s2 s3 s5 s6 s7 s10
 have s41 := fa ?b6_21 a7 w7 41 (hd 21 41 rfl)
 replace e_w := e_w.trans x
 replace e_w2 := e_w2.trans x
 replace e_w3 := e_w3.trans x
 replace e_w4 := e_w4.trans x; clear hd hs x
 refine et ?_
 refine wp_cond_split (show _ = _ from s41) (fun hg => ?_) (fun hg => ?_)
 ·
  skip
  refine sq ?_
  refine Q04 116 [[], [(42, some 0)]] [?b9_0, ?b9_0] Q08 hr ?t9 ?o9 ?_
  case o9 =>
   apply oc0; intro A W hx hf
   exact Qbr Qqf (Qdx )
   apply oc0; intro A W hx hf
   exact Q03 (q0 ?b9_0 A W 42 hf)
   exact onn
  case t9 => exact inferInstance
  clear hr; intro a10 w10 x hr hd hs
  clear s2 s3 s5 s6 s7 s10 s41
  have s12 := fa ?b9_0 a10 w10 12 (hd 1 12 rfl)
  replace e_w := e_w.trans x
  clear e_w2
  clear e_w3
  clear e_w4; clear hd hs x
  refine et ?_
  refine wp_ret ?_
  refine Q0e ?_
  refine Q0r Try.results6 hr e_w ?_
  first | with_reducible exact s12 | exact Is.bool s12 (by rw [hn1, hn2]; rfl) | exact Is.bool s12 (by simp)
 have hg9 : L.tags.length ≤ 100 ∧ load.length ≤ 500 ∧ whyL L T f load.length = 0 := by simp at hg; omega
 obtain ⟨hg1, hg2, hw⟩ := hg9
 obtain ⟨k1, k2, k3⟩ := Qa0 hw
 obtain ⟨k4, k5⟩ := Q9z hw
 have hml := Q7x hL hT9 hw
 have hhl := Qc4 T
 have hml2 : (Q1h L T f load).length ≤ 2000 := by split at hml <;> omega
 refine wp_skip ?_
 refine es ?_
 refine Q04 116 [[(6, none)], [(7, none)], [(2, none)], [(3, none)], [(43, some 0), (44, some 1), (45, some 2), (46, some 3)], [(47, some 4)]] [?b11_0, ?b11_1, ?b11_2, ?b11_3, ?b11_4, ?b11_4] Q08 hr ?t11 ?o11 ?_
 case o11 =>
  apply oc0; intro A W hx hf
  exact Q0b 5 tu46 rfl Q2v (o2 s6 e_w2 hx (r0 hf)) rfl
  apply oc0; intro A W hx hf
  exact Q0b 7 tu35 rfl Q37 (o2 s7 e_w3 hx (r0 hf)) rfl
  apply oc0; intro A W hx hf
  exact Q01 (a0 := a7) (r0 hf)
  apply oc0; intro A W hx hf
  exact Q01 (a0 := a7) (r0 hf)
  apply oc0; intro A W hx hf
  exact Q3p Qdb (Q6l (LinkV.of (show Is (LnkA L v) _ _ from (q0 ?b11_0 A W 43 hf)) (Q00 (e_w.trans hx) hT)) (show Is (TupV T) _ _ from (q1 ?b11_1 A W 44 hf)) (p2 s2 e_w hx (q2 ?b11_2 A W 45 hf)) (p2 s3 e_w hx (q3 ?b11_3 A W 46 hf)) (by exact hL) (by exact hT9) (by exact k1) (by exact k2) (by exact k4) hx.size)
  apply oc0; intro A W hx hf
  exact Q03 (q0 ?b11_4 A W 47 hf)
  exact onn
 case t11 => exact inferInstance
 clear hr; intro a12 w12 x hr hd hs
 have z_w_w7 := e_w.size
 have z_w2_w7 := e_w2.size
 have z_w3_w7 := e_w3.size
 have z_w4_w7 := e_w4.size
 have l12_6 := PxS.lt (Q00 e_w2 s6)
 have l12_7 := PxS.lt (Q00 e_w3 s7)
 have l12_10 := PxS.lt (Q00 e_w4 s10)
 revert s10; revert s7; revert s6; revert s5; revert s3; revert s2; refine kp6 hs rfl ?_; intro s2 s3 s5 s6 s7 s10
 clear s41
 have s13 := fa ?b11_4 a12 w12 13 (hd 5 13 rfl)
 obtain ⟨g12_13, q12_13⟩ := OwnB.at s13; clear s13; have n12_13 := OwnBA.lt q12_13
 replace q12_13 := OwnBA.mono q12_13 e_w.size
 have s13 := q12_13; clear q12_13
 replace e_w := e_w.trans x
 replace e_w2 := e_w2.trans x
 replace e_w3 := e_w3.trans x
 replace e_w4 := e_w4.trans x; clear hd hs x
 refine es ?_
 refine Q06 (l := [_, _]) (rest := [_]) 116 [[(7, none)], []] [?b13_0, ?b13_1] hr ?t13 ?o13 ?_
 case o13 =>
  apply oc0; intro A W hx hf
  exact Q0b 7 tu35 rfl Q37 (o2 s7 e_w3 hx (r0 hf)) rfl
  apply oc0; intro A W hx hf
  exact Q0y (tupS tup0) [1, 16, 1, 16, 1, 1, 1] Q9r (by rfl) (by rfl) hx.size
  exact onn
 case t13 => exact inferInstance
 clear hr; intro a14 w14 x hr hd hs
 have z_w_w12 := e_w.size
 have z_w2_w12 := e_w2.size
 have z_w3_w12 := e_w3.size
 have z_w4_w12 := e_w4.size
 have l14_6 := PxS.lt (Q00 e_w2 s6)
 have l14_7 := PxS.lt (Q00 e_w3 s7)
 have l14_10 := PxS.lt (Q00 e_w4 s10)
 have l14_13 := OwnBA.lt s13
 revert s10; revert s7; revert s6; revert s5; revert s3; revert s2; refine kp6 hs rfl ?_; intro s2 s3 s5 s6 s7 s10
 revert s13; refine kp1 hs rfl ?_; intro s13
 have s48 := fa ?b13_0 a14 w14 48 (hd 0 48 rfl)
 have s14 := fa ?b13_1 a14 w14 14 (hd 1 14 rfl)
 obtain ⟨g14_14, q14_14⟩ := PxN.at s14; clear s14; have n14_14 := PxS.lt q14_14
 replace q14_14 := PxS.mono q14_14 e_w.size
 have s14 := q14_14; clear q14_14
 replace e_w := e_w.trans x
 replace e_w2 := e_w2.trans x
 replace e_w3 := e_w3.trans x
 replace e_w4 := e_w4.trans x
 have e_w12 := x; clear hd hs x
 have z15 := PxS.lt s14
 have l15 := (show (g14_14 = 0 ∨ w.heap.size < g14_14) ∧ True from ⟨by omega, trivial⟩)
 have l15_6 := PxS.lt (Q00 e_w2 s6)
 have l15_7 := PxS.lt (Q00 e_w3 s7)
 have l15_10 := PxS.lt (Q00 e_w4 s10)
 have l15_13 := OwnBA.lt (Q00 e_w12 s13)
 refine Q19 (tupS T) hr Q37 s14 (Is.conv s48 (show _ = Value.agg (tupS T).flatten.toArray from rfl)) (by exact Q39 hT9) (by exact Q8h) rfl ?_; clear hr; intro a15 w15 hc hu hr hs
 have hb : Below w.heap.size w14 w15 := hc.below e_w.size l15.1
 revert s10; revert s7; revert s6; revert s5; revert s3; revert s2; refine kp6 hs rfl ?_; intro s2 s3 s5 s6 s7 s10
 revert s14; revert s13; refine kp2 hs rfl ?_; intro s13 s14
 clear s48
 replace s6 := PxS.other (Q00 e_w2 s6) hc (by omega)
 replace s7 := PxS.other (Q00 e_w3 s7) hc (by omega)
 replace s10 := PxS.other (Q00 e_w4 s10) hc (by omega)
 replace s13 := OwnBA.other (Q00 e_w12 s13) hc (by omega)
 replace s14 := hu _ _ _ s14
 try simp only [List.set_cons_zero, List.set_cons_succ, tupS] at s14
 replace e_w := e_w.below (Nat.le_refl _) hb
 clear e_w2
 clear e_w3
 clear e_w4
 clear e_w12
 clear hu hs hc hb
 refine wpList_nil ?_
 refine es ?_
 refine Q06 (l := [_, _]) (rest := [_]) 116 [[(10, none)], [(14, none)]] [?b16_0, ?b16_1] hr ?t16 ?o16 ?_
 case o16 =>
  apply oc0; intro A W hx hf
  exact Q0b 2 tu25 rfl Q0z (o1 s10 hx (r0 hf)) rfl
  apply oc0; intro A W hx hf
  exact Q02 2 tu35 (k := 1) rfl Q0z rfl (o1 s14 hx (r0 hf)) rfl
  exact onn
 case t16 => exact inferInstance
 clear hr; intro a17 w17 x hr hd hs
 revert s10; revert s7; revert s6; revert s5; revert s3; revert s2; refine kp6 hs rfl ?_; intro s2 s3 s5 s6 s7 s10
 revert s14; revert s13; refine kp2 hs rfl ?_; intro s13 s14
 have s49 := fa ?b16_0 a17 w17 49 (hd 0 49 rfl)
 have s50 := fa ?b16_1 a17 w17 50 (hd 1 50 rfl)
 replace e_w := e_w.trans x
 have e_w15 := x; clear hd hs x
 have z18 := PxS.lt s50
 have l18 := (show (g14_14 = 0 ∨ w.heap.size < g14_14) ∧ True from ⟨by omega, trivial⟩)
 have l18_6 := PxS.lt (Q00 e_w15 s6)
 have l18_7 := PxS.lt (Q00 e_w15 s7)
 have l18_10 := PxS.lt (Q00 e_w15 s10)
 have l18_13 := OwnBA.lt (Q00 e_w15 s13)
 refine Q9m (tupS { T with dst := Sa }) [[.bool Sa.six], Sa.b.map Q0t] hr Q0z s50 (Is.conv s49 (show _ = Value.agg ([[Value.bool Sa.six], Sa.b.map Q0t] : List (List Value)).flatten.toArray from rfl)) (by rfl) (by exact Nat.le_of_ble_eq_true rfl) (by exact Q39 ⟨hT9.1, hA⟩) (by exact Qgg hA) (by exact Qce) ?_; clear hr; intro a18 w18 hc hu hr hs
 have hb : Below w.heap.size w17 w18 := hc.below e_w.size l18.1
 revert s10; revert s7; revert s6; revert s5; revert s3; revert s2; refine kp6 hs rfl ?_; intro s2 s3 s5 s6 s7 s10
 revert s14; revert s13; refine kp2 hs rfl ?_; intro s13 s14
 clear s49 s50
 replace s6 := PxS.other (Q00 e_w15 s6) hc (by omega)
 replace s7 := PxS.other (Q00 e_w15 s7) hc (by omega)
 replace s10 := PxS.other (Q00 e_w15 s10) hc (by omega)
 replace s13 := OwnBA.other (Q00 e_w15 s13) hc (by omega)
 replace s14 := hu _ _ _ (Q00 e_w15 s14)
 try simp only [List.set_cons_zero, List.set_cons_succ, tupS] at s14
 replace e_w := e_w.below (Nat.le_refl _) hb
 clear e_w15
 clear hu hs hc hb
 refine wpList_nil ?_
 refine es ?_
 refine Q06 (l := [_, _]) (rest := [_]) 116 [[(5, none)], [(14, none)]] [?b19_0, ?b19_1] hr ?t19 ?o19 ?_
 case o19 =>
  apply oc0; intro A W hx hf
  exact Q01 (a0 := a18) (r0 hf)
  apply oc0; intro A W hx hf
  exact Q02 6 tu35 (k := 4) rfl Q0m rfl (o1 s14 hx (r0 hf)) rfl
  exact onn
 case t19 => exact inferInstance
 clear hr; intro a20 w20 x hr hd hs
 have u51 := mv s5 (fa ?b19_0 a20 w20 51 (hd 0 51 rfl))
 revert s10; revert s7; revert s6; revert s5; revert s3; revert s2; refine kp6 hs rfl ?_; intro s2 s3 s5 s6 s7 s10
 revert s14; revert s13; refine kp2 hs rfl ?_; intro s13 s14
 have s51 := u51; clear u51
 have s52 := fa ?b19_1 a20 w20 52 (hd 1 52 rfl)
 replace e_w := e_w.trans x
 have e_w18 := x; clear hd hs x
 have z21 := PxS.lt s52
 have l21 := (show (g14_14 = 0 ∨ w.heap.size < g14_14) ∧ True from ⟨by omega, trivial⟩)
 have l21_6 := PxS.lt (Q00 e_w18 s6)
 have l21_7 := PxS.lt (Q00 e_w18 s7)
 have l21_10 := PxS.lt (Q00 e_w18 s10)
 have l21_13 := OwnBA.lt (Q00 e_w18 s13)
 refine Q1z hr Q0m s52 (Q00 e_w s51) (by rfl) rfl ?_; clear hr; intro a21 w21 hc hu hr hs
 have hb : Below w.heap.size w20 w21 := hc.below e_w.size l21.1
 revert s10; revert s7; revert s6; revert s5; revert s3; revert s2; refine kp6 hs rfl ?_; intro s2 s3 s5 s6 s7 s10
 revert s14; revert s13; refine kp2 hs rfl ?_; intro s13 s14
 clear s51 s52
 replace s6 := PxS.other (Q00 e_w18 s6) hc (by omega)
 replace s7 := PxS.other (Q00 e_w18 s7) hc (by omega)
 replace s10 := PxS.other (Q00 e_w18 s10) hc (by omega)
 replace s13 := OwnBA.other (Q00 e_w18 s13) hc (by omega)
 replace s14 := hu _ _ _ (Q00 e_w18 s14)
 try simp only [List.set_cons_zero, List.set_cons_succ, tupS] at s14
 replace e_w := e_w.below (Nat.le_refl _) hb
 clear e_w18
 clear hu hs hc hb
 refine wpList_nil ?_
 replace s14 := PxS.cast s14 (show _ = tupS (natT T Sa n true) from rfl)
 refine es ?_
 refine Q06 (l := [_, _]) (rest := [_]) 116 [[(7, none)], []] [?b22_0, ?b22_1] hr ?t22 ?o22 ?_
 case o22 =>
  apply oc0; intro A W hx hf
  exact Q0b 7 tu35 rfl Q37 (o1 s7 hx (r0 hf)) rfl
  apply oc0; intro A W hx hf
  exact Q0y (tupS tup0) [1, 16, 1, 16, 1, 1, 1] Q9r (by rfl) (by rfl) hx.size
  exact onn
 case t22 => exact inferInstance
 clear hr; intro a23 w23 x hr hd hs
 have z_w_w21 := e_w.size
 have l23_6 := PxS.lt s6
 have l23_7 := PxS.lt s7
 have l23_10 := PxS.lt s10
 have l23_13 := OwnBA.lt s13
 have l23_14 := PxS.lt s14
 revert s10; revert s7; revert s6; revert s5; revert s3; revert s2; refine kp6 hs rfl ?_; intro s2 s3 s5 s6 s7 s10
 revert s14; revert s13; refine kp2 hs rfl ?_; intro s13 s14
 have s53 := fa ?b22_0 a23 w23 53 (hd 0 53 rfl)
 have s15 := fa ?b22_1 a23 w23 15 (hd 1 15 rfl)
 obtain ⟨g23_15, q23_15⟩ := PxN.at s15; clear s15; have n23_15 := PxS.lt q23_15
 replace q23_15 := PxS.mono q23_15 e_w.size
 have s15 := q23_15; clear q23_15
 replace e_w := e_w.trans x
 have e_w21 := x; clear hd hs x
 have z24 := PxS.lt s15
 have l24 := (show (g23_15 = 0 ∨ w.heap.size < g23_15) ∧ True from ⟨by omega, trivial⟩)
 have l24_6 := PxS.lt (Q00 e_w21 s6)
 have l24_7 := PxS.lt (Q00 e_w21 s7)
 have l24_10 := PxS.lt (Q00 e_w21 s10)
 have l24_13 := OwnBA.lt (Q00 e_w21 s13)
 have l24_14 := PxS.lt (Q00 e_w21 s14)
 refine Q19 (tupS T) hr Q37 s15 (Is.conv s53 (show _ = Value.agg (tupS T).flatten.toArray from rfl)) (by exact Q39 hT9) (by exact Q8h) rfl ?_; clear hr; intro a24 w24 hc hu hr hs
 have hb : Below w.heap.size w23 w24 := hc.below e_w.size l24.1
 revert s10; revert s7; revert s6; revert s5; revert s3; revert s2; refine kp6 hs rfl ?_; intro s2 s3 s5 s6 s7 s10
 revert s15; revert s14; revert s13; refine kp3 hs rfl ?_; intro s13 s14 s15
 clear s53
 replace s6 := PxS.other (Q00 e_w21 s6) hc (by omega)
 replace s7 := PxS.other (Q00 e_w21 s7) hc (by omega)
 replace s10 := PxS.other (Q00 e_w21 s10) hc (by omega)
 replace s13 := OwnBA.other (Q00 e_w21 s13) hc (by omega)
 replace s14 := PxS.other (Q00 e_w21 s14) hc (by omega)
 replace s15 := hu _ _ _ s15
 try simp only [List.set_cons_zero, List.set_cons_succ, tupS] at s15
 replace e_w := e_w.below (Nat.le_refl _) hb
 clear e_w21
 clear hu hs hc hb
 refine wpList_nil ?_
 refine es ?_
 refine Q06 (l := [_, _]) (rest := [_]) 116 [[(10, none)], [(15, none)]] [?b25_0, ?b25_1] hr ?t25 ?o25 ?_
 case o25 =>
  apply oc0; intro A W hx hf
  exact Q0b 2 tu25 rfl Q0z (o1 s10 hx (r0 hf)) rfl
  apply oc0; intro A W hx hf
  exact Q02 0 tu35 (k := 0) rfl Q0z rfl (o1 s15 hx (r0 hf)) rfl
  exact onn
 case t25 => exact inferInstance
 clear hr; intro a26 w26 x hr hd hs
 revert s10; revert s7; revert s6; revert s5; revert s3; revert s2; refine kp6 hs rfl ?_; intro s2 s3 s5 s6 s7 s10
 revert s15; revert s14; revert s13; refine kp3 hs rfl ?_; intro s13 s14 s15
 have s54 := fa ?b25_0 a26 w26 54 (hd 0 54 rfl)
 have s55 := fa ?b25_1 a26 w26 55 (hd 1 55 rfl)
 replace e_w := e_w.trans x
 have e_w24 := x; clear hd hs x
 have z27 := PxS.lt s55
 have l27 := (show (g23_15 = 0 ∨ w.heap.size < g23_15) ∧ True from ⟨by omega, trivial⟩)
 have l27_6 := PxS.lt (Q00 e_w24 s6)
 have l27_7 := PxS.lt (Q00 e_w24 s7)
 have l27_10 := PxS.lt (Q00 e_w24 s10)
 have l27_13 := OwnBA.lt (Q00 e_w24 s13)
 have l27_14 := PxS.lt (Q00 e_w24 s14)
 refine Q9m (tupS { T with src := Sa }) [[.bool Sa.six], Sa.b.map Q0t] hr Q0z s55 (Is.conv s54 (show _ = Value.agg ([[Value.bool Sa.six], Sa.b.map Q0t] : List (List Value)).flatten.toArray from rfl)) (by rfl) (by exact Nat.le_of_ble_eq_true rfl) (by exact Q39 ⟨hA, hT9.2⟩) (by exact Qgg hA) (by exact Qce) ?_; clear hr; intro a27 w27 hc hu hr hs
 have hb : Below w.heap.size w26 w27 := hc.below e_w.size l27.1
 revert s10; revert s7; revert s6; revert s5; revert s3; revert s2; refine kp6 hs rfl ?_; intro s2 s3 s5 s6 s7 s10
 revert s15; revert s14; revert s13; refine kp3 hs rfl ?_; intro s13 s14 s15
 clear s54 s55
 replace s6 := PxS.other (Q00 e_w24 s6) hc (by omega)
 replace s7 := PxS.other (Q00 e_w24 s7) hc (by omega)
 replace s10 := PxS.other (Q00 e_w24 s10) hc (by omega)
 replace s13 := OwnBA.other (Q00 e_w24 s13) hc (by omega)
 replace s14 := PxS.other (Q00 e_w24 s14) hc (by omega)
 replace s15 := hu _ _ _ (Q00 e_w24 s15)
 try simp only [List.set_cons_zero, List.set_cons_succ, tupS] at s15
 replace e_w := e_w.below (Nat.le_refl _) hb
 clear e_w24
 clear hu hs hc hb
 refine wpList_nil ?_
 refine es ?_
 refine Q06 (l := [_, _]) (rest := [_]) 116 [[(5, none)], [(15, none)]] [?b28_0, ?b28_1] hr ?t28 ?o28 ?_
 case o28 =>
  apply oc0; intro A W hx hf
  exact Q01 (a0 := a27) (r0 hf)
  apply oc0; intro A W hx hf
  exact Q02 5 tu35 (k := 3) rfl Q0m rfl (o1 s15 hx (r0 hf)) rfl
  exact onn
 case t28 => exact inferInstance
 clear hr; intro a29 w29 x hr hd hs
 have u56 := mv s5 (fa ?b28_0 a29 w29 56 (hd 0 56 rfl))
 revert s10; revert s7; revert s6; revert s5; revert s3; revert s2; refine kp6 hs rfl ?_; intro s2 s3 s5 s6 s7 s10
 revert s15; revert s14; revert s13; refine kp3 hs rfl ?_; intro s13 s14 s15
 have s56 := u56; clear u56
 have s57 := fa ?b28_1 a29 w29 57 (hd 1 57 rfl)
 replace e_w := e_w.trans x
 have e_w27 := x; clear hd hs x
 have z30 := PxS.lt s57
 have l30 := (show (g23_15 = 0 ∨ w.heap.size < g23_15) ∧ True from ⟨by omega, trivial⟩)
 have l30_6 := PxS.lt (Q00 e_w27 s6)
 have l30_7 := PxS.lt (Q00 e_w27 s7)
 have l30_10 := PxS.lt (Q00 e_w27 s10)
 have l30_13 := OwnBA.lt (Q00 e_w27 s13)
 have l30_14 := PxS.lt (Q00 e_w27 s14)
 refine Q1z hr Q0m s57 (Q00 e_w s56) (by rfl) rfl ?_; clear hr; intro a30 w30 hc hu hr hs
 have hb : Below w.heap.size w29 w30 := hc.below e_w.size l30.1
 revert s10; revert s7; revert s6; revert s5; revert s3; revert s2; refine kp6 hs rfl ?_; intro s2 s3 s5 s6 s7 s10
 revert s15; revert s14; revert s13; refine kp3 hs rfl ?_; intro s13 s14 s15
 clear s56 s57
 replace s6 := PxS.other (Q00 e_w27 s6) hc (by omega)
 replace s7 := PxS.other (Q00 e_w27 s7) hc (by omega)
 replace s10 := PxS.other (Q00 e_w27 s10) hc (by omega)
 replace s13 := OwnBA.other (Q00 e_w27 s13) hc (by omega)
 replace s14 := PxS.other (Q00 e_w27 s14) hc (by omega)
 replace s15 := hu _ _ _ (Q00 e_w27 s15)
 try simp only [List.set_cons_zero, List.set_cons_succ, tupS] at s15
 replace e_w := e_w.below (Nat.le_refl _) hb
 clear e_w27
 clear hu hs hc hb
 refine wpList_nil ?_
 replace s15 := PxS.cast s15 (show _ = tupS (natT T Sa n false) from rfl)
 refine es ?_
 refine Q04 116 [[(13, none)], [(10, none)], [(5, none)], [(59, some 0), (60, some 1), (61, some 2)], [(62, some 3)], [(58, some 4)], [(58, some 4)], [(63, some 5)], [(64, some 6)]] [?b31_0, ?b31_1, ?b31_2, ?b31_3, ?b31_3, ?b31_5, ?b31_6, ?b31_5, ?b31_6] Q08 hr ?t31 ?o31 ?_
 case o31 =>
  apply oc0; intro A W hx hf
  exact Q01 (a0 := a30) (r0 hf)
  apply oc0; intro A W hx hf
  exact Q0b 2 tu25 rfl Q0z (o1 s10 hx (r0 hf)) rfl
  apply oc0; intro A W hx hf
  exact Q01 (a0 := a30) (r0 hf)
  apply oc0; intro A W hx hf
  exact Q2y Qda (Qjz (OwnBA.bs (p1 s13 hx (q0 ?b31_0 A W 59 hf))) (Is.conv (q1 ?b31_1 A W 60 hf) (Q1o Sa)) (p2 s5 e_w hx (q2 ?b31_2 A W 61 hf)) (by exact hA) (by omega) hx.size)
  apply oc0; intro A W hx hf
  exact Q0h (q0 ?b31_3 A W 62 hf)
  apply oc0; intro A W hx hf
  exact Q2t (q0 ?b31_3 A W 58 hf)
  apply oc0; intro A W hx hf
  exact Q2u (q0 ?b31_3 A W 58 hf)
  apply oc0; intro A W hx hf
  exact Q03 (q0 ?b31_5 A W 63 hf)
  apply oc0; intro A W hx hf
  exact Q03 (q0 ?b31_6 A W 64 hf)
  exact onn
 case t31 => exact inferInstance
 clear hr; intro a32 w32 x hr hd hs
 have z_w_w30 := e_w.size
 have l32_6 := PxS.lt s6
 have l32_7 := PxS.lt s7
 have l32_10 := PxS.lt s10
 have l32_13 := OwnBA.lt s13
 have l32_14 := PxS.lt s14
 have l32_15 := PxS.lt s15
 revert s10; revert s7; revert s6; revert s5; revert s3; revert s2; refine kp6 hs rfl ?_; intro s2 s3 s5 s6 s7 s10
 revert s15; revert s14; revert s13; refine kp3 hs rfl ?_; intro s13 s14 s15
 have s16 := fa ?b31_5 a32 w32 16 (hd 7 16 rfl)
 have s17 := fa ?b31_6 a32 w32 17 (hd 8 17 rfl)
 obtain ⟨g32_16, q32_16⟩ := OwnB.at s16; clear s16; have n32_16 := OwnBA.lt q32_16
 replace q32_16 := OwnBA.mono q32_16 e_w.size
 have s16 := q32_16; clear q32_16
 replace e_w := e_w.trans x
 have e_w30 := x; clear hd hs x
 refine es ?_
 refine Q04 116 [[(13, none)], [(10, none)], [(5, none)], [(66, some 0), (67, some 1), (68, some 2)], [(69, some 3)], [(65, some 4)], [(65, some 4)], [(70, some 5)], [(71, some 6)]] [?b33_0, ?b33_1, ?b33_2, ?b33_3, ?b33_3, ?b33_5, ?b33_6, ?b33_5, ?b33_6] Q08 hr ?t33 ?o33 ?_
 case o33 =>
  apply oc0; intro A W hx hf
  exact Q01 (a0 := a32) (r0 hf)
  apply oc0; intro A W hx hf
  exact Q0b 2 tu25 rfl Q0z (o2 s10 e_w30 hx (r0 hf)) rfl
  apply oc0; intro A W hx hf
  exact Q01 (a0 := a32) (r0 hf)
  apply oc0; intro A W hx hf
  exact Q2y Qmk (Qk0 (OwnBA.bs (p2 s13 e_w30 hx (q0 ?b33_0 A W 66 hf))) (Is.conv (q1 ?b33_1 A W 67 hf) (Q1o Sa)) (p2 s5 e_w hx (q2 ?b33_2 A W 68 hf)) (by exact hA) (by omega) hx.size)
  apply oc0; intro A W hx hf
  exact Q0h (q0 ?b33_3 A W 69 hf)
  apply oc0; intro A W hx hf
  exact Q2t (q0 ?b33_3 A W 65 hf)
  apply oc0; intro A W hx hf
  exact Q2u (q0 ?b33_3 A W 65 hf)
  apply oc0; intro A W hx hf
  exact Q03 (q0 ?b33_5 A W 70 hf)
  apply oc0; intro A W hx hf
  exact Q03 (q0 ?b33_6 A W 71 hf)
  exact onn
 case t33 => exact inferInstance
 clear hr; intro a34 w34 x hr hd hs
 have z_w_w32 := e_w.size
 have z_w30_w32 := e_w30.size
 have l34_6 := PxS.lt (Q00 e_w30 s6)
 have l34_7 := PxS.lt (Q00 e_w30 s7)
 have l34_10 := PxS.lt (Q00 e_w30 s10)
 have l34_13 := OwnBA.lt (Q00 e_w30 s13)
 have l34_14 := PxS.lt (Q00 e_w30 s14)
 have l34_15 := PxS.lt (Q00 e_w30 s15)
 have l34_16 := OwnBA.lt s16
 revert s10; revert s7; revert s6; revert s5; revert s3; revert s2; refine kp6 hs rfl ?_; intro s2 s3 s5 s6 s7 s10
 revert s16; revert s17; revert s15; revert s14; refine kp4 hs rfl ?_; intro s14 s15 s17 s16
 clear s13
 have s18 := fa ?b33_5 a34 w34 18 (hd 7 18 rfl)
 have s19 := fa ?b33_6 a34 w34 19 (hd 8 19 rfl)
 obtain ⟨g34_18, q34_18⟩ := OwnB.at s18; clear s18; have n34_18 := OwnBA.lt q34_18
 replace q34_18 := OwnBA.mono q34_18 e_w.size
 have s18 := q34_18; clear q34_18
 replace e_w := e_w.trans x
 replace e_w30 := e_w30.trans x
 have e_w32 := x; clear hd hs x
 refine es ?_
 refine sq ?_
 refine Q04 116 [[(7, none)], [(72, some 0)], [(73, some 1)], [(10, none)], [(74, some 2), (75, some 3)], [(76, some 4)], [(77, some 5)], [(5, none), (78, some 6)], [(79, some 7), (78, some 6)], [(78, some 6), (80, some 8)], [(81, some 9)], [(5, none), (82, some 10)], [(83, some 11), (82, some 10)], [(82, some 10), (84, some 12)]] [?b35_0, ?b35_1, ?b35_2, ?b35_3, ?b35_4, ?b35_5, ?b35_5, ?b35_7, ?b35_8, ?b35_9, ?b35_9, ?b35_11, ?b35_12, ?b35_13] Q08 hr ?t35 ?o35 ?_
 case o35 =>
  apply oc0; intro A W hx hf
  exact Q02 0 tu35 (k := 0) rfl Q0z rfl (o2 s7 e_w30 hx (r0 hf)) rfl
  apply oc0; intro A W hx hf
  exact Q02 0 tu25 (k := 0) rfl Q4r rfl (q0 ?b35_0 A W 72 hf) rfl
  apply oc0; intro A W hx hf
  exact Q0a tu4 rfl (q0 ?b35_1 A W 73 hf) rfl
  apply oc0; intro A W hx hf
  exact Q0b 2 tu25 rfl Q0z (o2 s10 e_w30 hx (r0 hf)) rfl
  apply oc0; intro A W hx hf
  exact Q0p Qpg (Qoc (q0 ?b35_2 A W 74 hf) (Is.conv (q1 ?b35_3 A W 75 hf) (Q1o Sa)) (by exact hA))
  apply oc0; intro A W hx hf
  exact Q43 (q0 ?b35_4 A W 76 hf)
  apply oc0; intro A W hx hf
  exact Q0h (q0 ?b35_5 A W 77 hf)
  refine ocg 78 ?_ (fun A W hx hf => ?_) ?_
  rfl
  exact gd_f (q1 ?b35_5 A W 78 hf) (fun hc => Q01 (a0 := a34) (r0 hf))
  refine ocg 78 ?_ (fun A W hx hf => ?_) ?_
  rfl
  exact gd_f (q1 ?b35_5 A W 78 hf) (fun hc => Q1b (p2 s5 e_w hx (G.get (q0 ?b35_7 A W 79 hf) hc)) (ec A (.int .i64 0)))
  apply oc0; intro A W hx hf
  exact Q3o (q0 ?b35_5 A W 78 hf) (q1 ?b35_8 A W 80 hf)
  apply oc0; intro A W hx hf
  exact Q0h (q0 ?b35_9 A W 81 hf)
  refine ocg 82 ?_ (fun A W hx hf => ?_) ?_
  rfl
  exact gd_f (q1 ?b35_9 A W 82 hf) (fun hc => Q01 (a0 := a34) (r0 hf))
  refine ocg 82 ?_ (fun A W hx hf => ?_) ?_
  rfl
  exact gd_f (q1 ?b35_9 A W 82 hf) (fun hc => Q3m (p2 s5 e_w hx (G.get (q0 ?b35_11 A W 83 hf) hc)) (ec A (.int .i64 65535)))
  apply oc0; intro A W hx hf
  exact Q3o (q0 ?b35_9 A W 82 hf) (q1 ?b35_12 A W 84 hf)
  exact onn
 case t35 => exact inferInstance
 clear hr; intro a36 w36 x hr hd hs
 revert s17; revert s15; revert s14; revert s6; revert s3; revert s2; refine kp6 hs rfl ?_; intro s2 s3 s6 s14 s15 s17
 revert s18; revert s19; revert s16; refine kp3 hs rfl ?_; intro s16 s19 s18
 clear s5 s7 s10
 have s85 := fa ?b35_13 a36 w36 85 (hd 13 85 rfl)
 replace e_w := e_w.trans x
 replace e_w30 := e_w30.trans x
 replace e_w32 := e_w32.trans x
 have e_w34 := x; clear hd hs x
 refine et ?_
 refine wp_cond_split (show _ = _ from s85) (fun hc9 => ?_) (fun hc9 => ?_)
 ·
  have hno := Qod hL hT9 hw hc9
  have hn1 := (Qem (dst := true) hno).1
  have hn2 := (Qem (dst := false) hno).1
  refine sq ?_
  refine Q04 116 [[(17, none)], [(86, some 0)], [(87, some 1)], [(19, none), (88, some 2)], [(89, some 3), (88, some 2)], [(88, some 2), (90, some 4)], [(91, some 5)]] [?b38_0, ?b38_1, ?b38_1, ?b38_3, ?b38_4, ?b38_5, ?b38_5] Q08 hr ?t38 ?o38 ?_
  case o38 =>
   apply oc0; intro A W hx hf
   exact Q01 (a0 := a36) (r0 hf)
   apply oc0; intro A W hx hf
   exact Q1i (p2 s17 e_w32 hx (q0 ?b38_0 A W 86 hf)) (ec A (.int .i64 1))
   apply oc0; intro A W hx hf
   exact Q0h (q0 ?b38_1 A W 87 hf)
   refine ocg 88 ?_ (fun A W hx hf => ?_) ?_
   rfl
   exact gd_t (q1 ?b38_1 A W 88 hf) (fun hc => Q01 (a0 := a36) (r0 hf))
   refine ocg 88 ?_ (fun A W hx hf => ?_) ?_
   rfl
   exact gd_t (q1 ?b38_1 A W 88 hf) (fun hc => Q1i (p2 s19 e_w34 hx (G.get (q0 ?b38_3 A W 89 hf) hc)) (ec A (.int .i64 1)))
   apply oc0; intro A W hx hf
   exact Q2p (q0 ?b38_1 A W 88 hf) (q1 ?b38_4 A W 90 hf)
   apply oc0; intro A W hx hf
   exact Q03 (q0 ?b38_5 A W 91 hf)
   exact onn
  case t38 => exact inferInstance
  clear hr; intro a39 w39 x hr hd hs
  clear s2 s3 s6 s14 s15 s17 s16 s19 s18 s85
  have s12 := fa ?b38_5 a39 w39 12 (hd 6 12 rfl)
  replace e_w := e_w.trans x
  clear e_w30
  clear e_w32
  clear e_w34; clear hd hs x
  refine et ?_
  refine wp_ret ?_
  refine Q0e ?_
  refine Q0r Try.results6 hr e_w ?_
  first | with_reducible exact s12 | exact Is.bool s12 (by rw [hn1, hn2]; rfl) | exact Is.bool s12 (by simp)
 obtain ⟨hof, hnb⟩ := Qoe hc9
 have P := Q80 (n := n) hL hT9 hw hof hnb
 have hok := Qof P
 have hy1 := (Qbz (dst := true) hok).1
 have hy2 := (Qbz (dst := false) hok).1
 have nm1 := Qgh (dst := true) hL hT9 hA hw hof hnb
 have nm2 := Qgh (dst := false) hL hT9 hA hw hof hnb
 have hkt : Q3f (natT T Sa n true) := Qcf hT9 hA
 have hkf : Q3f (natT T Sa n false) := Qcf hT9 hA
 have hwt := Qcg (dst := true) hw hof hnb
 have hwf := Qcg (dst := false) hw hof hnb
 obtain ⟨kt1, kt2, kt3⟩ := Qa0 hwt
 obtain ⟨kf1, kf2, kf3⟩ := Qa0 hwf
 obtain ⟨kt4, kt5⟩ := Q9z hwt
 obtain ⟨kf4, kf5⟩ := Q9z hwf
 have ln1 := Q7x hL hkt hwt
 have ln2 := Q7x hL hkf hwf
 replace s16 := OwnBA.cast s16 (show _ = Q1h L (natT T Sa n true) f load from by rw [hy1]; exact nm1)
 replace s17 := Is.int s17 (show _ = (0 : Int) from by rw [hy1])
 replace s18 := OwnBA.cast s18 (show _ = Q1h L (natT T Sa n false) f load from by rw [hy2]; exact nm2)
 replace s19 := Is.int s19 (show _ = (0 : Int) from by rw [hy2])
 refine wp_skip ?_
 refine es ?_
 refine Q04 116 [[(17, none)], [(92, some 0)], [(93, some 1)], [(19, none), (94, some 2)], [(95, some 3), (94, some 2)], [(94, some 2), (96, some 4)], [(97, some 5)], [(16, none), (98, some 6)], [(6, none), (98, some 6)], [(14, none), (98, some 6)], [(2, none), (98, some 6)], [(3, none), (98, some 6)], [(100, some 8), (101, some 9), (102, some 10), (103, some 11), (98, some 6)], [(99, some 7), (104, some 12), (98, some 6)], [(98, some 6), (105, some 13)], [(106, some 14)], [(18, none), (107, some 15)], [(6, none), (107, some 15)], [(15, none), (107, some 15)], [(2, none), (107, some 15)], [(3, none), (107, some 15)], [(109, some 17), (110, some 18), (111, some 19), (112, some 20), (107, some 15)], [(108, some 16), (113, some 21), (107, some 15)], [(107, some 15), (114, some 22)], [(115, some 23)]] [?b40_0, ?b40_1, ?b40_1, ?b40_3, ?b40_4, ?b40_5, ?b40_5, ?b40_7, ?b40_8, ?b40_9, ?b40_10, ?b40_11, ?b40_12, ?b40_13, ?b40_14, ?b40_14, ?b40_16, ?b40_17, ?b40_18, ?b40_19, ?b40_20, ?b40_21, ?b40_22, ?b40_23, ?b40_23] Q08 hr ?t40 ?o40 ?_
 case o40 =>
  apply oc0; intro A W hx hf
  exact Q01 (a0 := a36) (r0 hf)
  apply oc0; intro A W hx hf
  exact Q1i (p2 s17 e_w32 hx (q0 ?b40_0 A W 92 hf)) (ec A (.int .i64 0))
  apply oc0; intro A W hx hf
  exact Q0h (q0 ?b40_1 A W 93 hf)
  refine ocg 94 ?_ (fun A W hx hf => ?_) ?_
  rfl
  exact gd_t (q1 ?b40_1 A W 94 hf) (fun hc => Q01 (a0 := a36) (r0 hf))
  refine ocg 94 ?_ (fun A W hx hf => ?_) ?_
  rfl
  exact gd_t (q1 ?b40_1 A W 94 hf) (fun hc => Q1i (p2 s19 e_w34 hx (G.get (q0 ?b40_3 A W 95 hf) hc)) (ec A (.int .i64 0)))
  apply oc0; intro A W hx hf
  exact Q2p (q0 ?b40_1 A W 94 hf) (q1 ?b40_4 A W 96 hf)
  apply oc0; intro A W hx hf
  exact Q0h (q0 ?b40_5 A W 97 hf)
  refine ocg 98 ?_ (fun A W hx hf => ?_) ?_
  rfl
  exact gd_t (q1 ?b40_5 A W 98 hf) (fun hc => Q01 (a0 := a36) (r0 hf))
  refine ocg 98 ?_ (fun A W hx hf => ?_) ?_
  rfl
  exact gd_t (q1 ?b40_5 A W 98 hf) (fun hc => Q0b 5 tu46 rfl Q2v (o2 s6 e_w30 hx (r0 hf)) rfl)
  refine ocg 98 ?_ (fun A W hx hf => ?_) ?_
  rfl
  exact gd_t (q1 ?b40_5 A W 98 hf) (fun hc => Q0b 7 tu35 rfl Q37 (o2 s14 e_w30 hx (r0 hf)) rfl)
  refine ocg 98 ?_ (fun A W hx hf => ?_) ?_
  rfl
  exact gd_t (q1 ?b40_5 A W 98 hf) (fun hc => Q01 (a0 := a36) (r0 hf))
  refine ocg 98 ?_ (fun A W hx hf => ?_) ?_
  rfl
  exact gd_t (q1 ?b40_5 A W 98 hf) (fun hc => Q01 (a0 := a36) (r0 hf))
  refine ocg 98 ?_ (fun A W hx hf => ?_) ?_
  rfl
  exact gd_t (q4 ?b40_5 A W 98 hf) (fun hc => Q3p Qdb (Q6l (LinkV.of (show Is (LnkA L v) _ _ from (G.get (q0 ?b40_8 A W 100 hf) hc)) (Q00 (e_w.trans hx) hT)) (Is.conv (G.get (q1 ?b40_9 A W 101 hf) hc) (show _ = TupV (natT T Sa n true) from rfl)) (p2 s2 e_w hx (G.get (q2 ?b40_10 A W 102 hf) hc)) (p2 s3 e_w hx (G.get (q3 ?b40_11 A W 103 hf) hc)) (by exact hL) (by exact hkt) (by exact kt1) (by exact kt2) (by exact kt4) hx.size))
  refine ocg 98 ?_ (fun A W hx hf => ?_) ?_
  rfl
  exact gd_t (q2 ?b40_5 A W 98 hf) (fun hc => Q0p Qg0 (Qgi (OwnBA.bs (p2 s16 e_w32 hx (G.get (q0 ?b40_7 A W 99 hf) hc))) (OwnB.bs (G.get (q1 ?b40_12 A W 104 hf) hc))))
  apply oc0; intro A W hx hf
  exact Q2p (q0 ?b40_5 A W 98 hf) (q1 ?b40_13 A W 105 hf)
  apply oc0; intro A W hx hf
  exact Q0h (q0 ?b40_14 A W 106 hf)
  refine ocg 107 ?_ (fun A W hx hf => ?_) ?_
  rfl
  exact gd_t (q1 ?b40_14 A W 107 hf) (fun hc => Q01 (a0 := a36) (r0 hf))
  refine ocg 107 ?_ (fun A W hx hf => ?_) ?_
  rfl
  exact gd_t (q1 ?b40_14 A W 107 hf) (fun hc => Q0b 5 tu46 rfl Q2v (o2 s6 e_w30 hx (r0 hf)) rfl)
  refine ocg 107 ?_ (fun A W hx hf => ?_) ?_
  rfl
  exact gd_t (q1 ?b40_14 A W 107 hf) (fun hc => Q0b 7 tu35 rfl Q37 (o2 s15 e_w30 hx (r0 hf)) rfl)
  refine ocg 107 ?_ (fun A W hx hf => ?_) ?_
  rfl
  exact gd_t (q1 ?b40_14 A W 107 hf) (fun hc => Q01 (a0 := a36) (r0 hf))
  refine ocg 107 ?_ (fun A W hx hf => ?_) ?_
  rfl
  exact gd_t (q1 ?b40_14 A W 107 hf) (fun hc => Q01 (a0 := a36) (r0 hf))
  refine ocg 107 ?_ (fun A W hx hf => ?_) ?_
  rfl
  exact gd_t (q4 ?b40_14 A W 107 hf) (fun hc => Q3p Qdb (Q6l (LinkV.of (show Is (LnkA L v) _ _ from (G.get (q0 ?b40_17 A W 109 hf) hc)) (Q00 (e_w.trans hx) hT)) (Is.conv (G.get (q1 ?b40_18 A W 110 hf) hc) (show _ = TupV (natT T Sa n false) from rfl)) (p2 s2 e_w hx (G.get (q2 ?b40_19 A W 111 hf) hc)) (p2 s3 e_w hx (G.get (q3 ?b40_20 A W 112 hf) hc)) (by exact hL) (by exact hkf) (by exact kf1) (by exact kf2) (by exact kf4) hx.size))
  refine ocg 107 ?_ (fun A W hx hf => ?_) ?_
  rfl
  exact gd_t (q2 ?b40_14 A W 107 hf) (fun hc => Q0p Qg0 (Qgi (OwnBA.bs (p2 s18 e_w34 hx (G.get (q0 ?b40_16 A W 108 hf) hc))) (OwnB.bs (G.get (q1 ?b40_21 A W 113 hf) hc))))
  apply oc0; intro A W hx hf
  exact Q2p (q0 ?b40_14 A W 107 hf) (q1 ?b40_22 A W 114 hf)
  apply oc0; intro A W hx hf
  exact Q03 (q0 ?b40_23 A W 115 hf)
  exact onn
 case t40 => repeat (first | exact Q9h | refine Q7e ?_)
 clear hr; intro a41 w41 x hr hd hs
 have z_w_w36 := e_w.size
 have z_w30_w36 := e_w30.size
 have z_w32_w36 := e_w32.size
 have z_w34_w36 := e_w34.size
 clear s2 s3 s6 s14 s15 s17 s16 s19 s18 s85
 have s12 := fa ?b40_23 a41 w41 12 (hd 24 12 rfl)
 replace e_w := e_w.trans x
 clear e_w30
 clear e_w32
 clear e_w34; clear hd hs x
 refine et ?_
 refine wp_ret ?_
 refine Q0r Try.results6 hr e_w ?_
 first | with_reducible exact s12 | exact Is.bool s12 (by rw [hn1, hn2]; rfl) | exact Is.bool s12 (by simp)

end Go.Proofs.Ytlmdboaghojgiaa
