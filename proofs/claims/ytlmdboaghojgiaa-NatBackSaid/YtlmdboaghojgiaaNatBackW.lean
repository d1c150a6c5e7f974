import Derived.Test.YtlmdboaghojgiaaA12
import Derived.Test.YtlmdboaghojgiaaE12L
namespace Go.Proofs.Ytlmdboaghojgiaa
open Go.RowKit
set_option linter.unusedVariables false
set_option linter.unusedSimpArgs false
set_option maxRecDepth 4000
set_option maxHeartbeats 2000000 in
theorem Qgg {x0 x1 x2 x3 x4 : Value} {w : World} {l : List UInt8} {Sa Sb : Adr} {n p : Int} (h0 : (Bs l) x0 w) (h1 : (Is (AdrV Sa)) x1 w) (h2 : (Is (.int .i64 n)) x2 w) (h3 : (Is (AdrV Sb)) x3 w) (h4 : (Is (.int .i64 p)) x4 w) (hA : Sa.b.length = 16) (hB : Sb.b.length = 16) :
    Calls Try.prog 7 #[x0, x1, x2, x3, x4] w (Ret (Is (.bool true)) w) := by
 have hlen := Bs.len_le h0
 refine enter Try.func7 rfl Try.ntmps7 (k := 5) rfl (by decide) (fun a0 hr hargs => ?_)
 have s0 := sarg h0 (hargs 0 (by decide))
 have s1 := sarg h1 (hargs 1 (by decide))
 have s2 := sarg h2 (hargs 2 (by decide))
 have s3 := sarg h3 (hargs 3 (by decide))
 have s4 := sarg h4 (hargs 4 (by decide))
 clear hargs
 refine sq ?_
 refine Q04 (l := [_]) (rest := [_, _]) 198 [[(1, none)]] [?b1_0] hr ?t1 ?o1 ?_
 case o1 =>
  apply oc0; intro A W hx hf
  exact Q2c [[.bool Sa.six], Sa.b.map Q12] [1, 16] (Is.conv (o1 s1 hx (r0 hf)) (Q1d Sa).symm) (by simp [*]) hx.size
  exact onn
 case t1 => exact inferInstance
 clear hr; intro a2 w2 x hr hd hs
 revert s4; revert s3; revert s2; revert s0; refine kp4 hs rfl ?_; intro s0 s2 s3 s4
 clear s1
 have s6 := fa ?b1_0 a2 w2 6 (hd 0 6 rfl)
 obtain ⟨g2_6, q2_6⟩ := PxN.at s6; clear s6; have n2_6 := PxS.lt q2_6
 have s6 := q2_6; clear q2_6
 have e_w := x; clear hd hs x
 have l3_6 := PxS.lt s6
 refine Q13 hr (Q2c [[.bool Sb.six], Sb.b.map Q12] [1, 16] (Is.conv (Q00 e_w s3) (Q1d Sb).symm) (by simp [*]) (Nat.le_refl _)) inferInstance ?_; clear hr; intro a3 w3 x hr hd hs
 revert s6; revert s4; revert s2; revert s0; refine kp4 hs rfl ?_; intro s0 s2 s4 s6
 clear s3
 have s8 := hd 8 rfl (by decide)
 obtain ⟨g3_8, q3_8⟩ := PxN.at s8; clear s8; have n3_8 := PxS.lt q3_8
 replace q3_8 := PxS.mono q3_8 e_w.size
 have s8 := q3_8; clear q3_8
 replace e_w := e_w.trans x
 have e_w2 := x; clear hd hs x
 refine Q13 hr (Q07) inferInstance ?_; clear hr; intro a4 w4 x hr hd hs
 revert s8; revert s6; revert s4; revert s2; revert s0; refine kp5 hs rfl ?_; intro s0 s2 s4 s6 s8
 replace e_w := e_w.trans x
 replace e_w2 := e_w2.trans x
 have e_w3 := x; clear hd hs x
 refine wpList_nil ?_
 refine es ?_
 refine sq ?_
 refine Q05 198 [[], [(22, some 0)], [(23, some 1)], [(0, none), (24, some 2)], [(25, some 3), (24, some 2)], [(26, some 4), (24, some 2)], [(24, some 2), (27, some 5)]] [?b5_0, ?b5_1, ?b5_1, ?b5_3, ?b5_4, ?b5_5, ?b5_6] Q0a hr ?t5 ?o5 ?_
 case o5 =>
  apply oc0; intro A W hx hf
  exact Q6i Qi0 (Q69 )
  apply oc0; intro A W hx hf
  exact Q39 (q0 ?b5_0 A W 22 hf)
  apply oc0; intro A W hx hf
  exact Q0i (q0 ?b5_1 A W 23 hf)
  refine ocg 24 ?_ (fun A W hx hf => ?_) ?_
  rfl
  exact gd_f (q1 ?b5_1 A W 24 hf) (fun hc => Q01 (a0 := a4) (r0 hf))
  refine ocg 24 ?_ (fun A W hx hf => ?_) ?_
  rfl
  exact gd_f (q1 ?b5_1 A W 24 hf) (fun hc => Q0x tu22 (p2 s0 e_w hx (G.get (q0 ?b5_3 A W 25 hf) hc)))
  refine ocg 24 ?_ (fun A W hx hf => ?_) ?_
  rfl
  exact gd_f (q1 ?b5_1 A W 24 hf) (fun hc => Q3z (G.get (q0 ?b5_4 A W 26 hf) hc) (ec A (.int .i64 3000)))
  apply oc0; intro A W hx hf
  exact Q36 (q0 ?b5_1 A W 24 hf) (q1 ?b5_5 A W 27 hf)
  exact onn
 case t5 => exact inferInstance
 clear hr; intro a6 w6 x hr hd hs
 revert s8; revert s6; revert s4; revert s2; revert s0; refine kp5 hs rfl ?_; intro s0 s2 s4 s6 s8
 have s28 := fa ?b5_6 a6 w6 28 (hd 6 28 rfl)
 replace e_w := e_w.trans x
 replace e_w2 := e_w2.trans x
 replace e_w3 := e_w3.trans x; clear hd hs x
 refine et ?_
 refine wp_cond_split (show _ = _ from s28) (fun hg => ?_) (fun hg => ?_)
 ·
  skip
  refine sq ?_
  refine Q05 198 [[], [(29, some 0)]] [?b8_0, ?b8_0] Q0a hr ?t8 ?o8 ?_
  case o8 =>
   apply oc0; intro A W hx hf
   exact Q6i Qi0 (Q69 )
   apply oc0; intro A W hx hf
   exact Q03 (q0 ?b8_0 A W 29 hf)
   exact onn
  case t8 => exact inferInstance
  clear hr; intro a9 w9 x hr hd hs
  clear s0 s2 s4 s6 s8 s28
  have s10 := fa ?b8_0 a9 w9 10 (hd 1 10 rfl)
  replace e_w := e_w.trans x
  clear e_w2
  clear e_w3; clear hd hs x
  refine et ?_
  refine wp_ret ?_
  refine Q0f ?_
  refine Q10 Try.results7 hr e_w ?_
  first | with_reducible exact s10 | exact Is.bool s10 (by simp)
 have hg9 : l.length ≤ 3000 := by simp at hg; omega
 refine wp_skip ?_
 refine es ?_
 refine Q04 (l := [_, _, _]) (rest := [_]) 198 [[(0, none)], [(30, some 0)], []] [?b10_0, ?b10_1, ?b10_2] hr ?t10 ?o10 ?_
 case o10 =>
  apply oc0; intro A W hx hf
  exact Q01 (a0 := a6) (r0 hf)
  apply oc0; intro A W hx hf
  exact Q1c Qby (Q6a (p2 s0 e_w hx (q0 ?b10_0 A W 30 hf)) (by omega))
  apply oc0; intro A W hx hf
  exact Q0u (pktF (give 0)) [1, 1, 16, 1, 16, 1, 1, 1, 1, 1, 1, 1] Q60 (by rfl) (by rfl) hx.size
  exact onn
 case t10 => exact inferInstance
 clear hr; intro a11 w11 x hr hd hs
 have z_w_w6 := e_w.size
 have z_w2_w6 := e_w2.size
 have z_w3_w6 := e_w3.size
 have l11_6 := PxS.lt (Q00 e_w2 s6)
 have l11_8 := PxS.lt (Q00 e_w3 s8)
 revert s8; revert s6; revert s4; revert s2; revert s0; refine kp5 hs rfl ?_; intro s0 s2 s4 s6 s8
 clear s28
 have s31 := fa ?b10_1 a11 w11 31 (hd 1 31 rfl)
 have s11 := fa ?b10_2 a11 w11 11 (hd 2 11 rfl)
 obtain ⟨g11_11, q11_11⟩ := PxN.at s11; clear s11; have n11_11 := PxS.lt q11_11
 replace q11_11 := PxS.mono q11_11 e_w.size
 have s11 := q11_11; clear q11_11
 replace e_w := e_w.trans x
 replace e_w2 := e_w2.trans x
 replace e_w3 := e_w3.trans x; clear hd hs x
 have z12 := PxS.lt s11
 have l12 := (show (g11_11 = 0 ∨ w.heap.size < g11_11) ∧ True from ⟨by omega, trivial⟩)
 have l12_6 := PxS.lt (Q00 e_w2 s6)
 have l12_8 := PxS.lt (Q00 e_w3 s8)
 refine Q15 (pktF (Q0d l)) hr Q2g s11 (Is.conv s31 (show _ = Value.agg (pktF (Q0d l)).flatten.toArray from (Q8h _).symm)) (by exact Q45 (Q32 _)) (by exact Q7h) rfl ?_; clear hr; intro a12 w12 hc hu hr hs
 have hb : Below w.heap.size w11 w12 := hc.below e_w.size l12.1
 revert s11; revert s8; revert s6; revert s4; revert s2; revert s0; refine kp6 hs rfl ?_; intro s0 s2 s4 s6 s8 s11
 clear s31
 replace s6 := PxS.other (Q00 e_w2 s6) hc (by omega)
 replace s8 := PxS.other (Q00 e_w3 s8) hc (by omega)
 replace s11 := hu _ _ _ s11
 try simp only [List.set_cons_zero, List.set_cons_succ, pktF] at s11
 replace e_w := e_w.below (Nat.le_refl _) hb
 clear e_w2
 clear e_w3
 clear hu hs hc hb
 refine wpList_nil ?_
 refine es ?_
 refine sq ?_
 refine Q05 198 ([(11, none)] :: [(32, some 0)] :: [(33, some 1)] :: [(34, some 2)] :: [(11, none), (35, some 3)] :: [(36, some 4), (35, some 3)] :: [(37, some 5), (35, some 3)] :: [(38, some 6), (35, some 3)] :: [(6, none), (35, some 3)] :: [(39, some 7), (40, some 8), (35, some 3)] :: [(41, some 9), (35, some 3)] :: [(35, some 3), (42, some 10)] :: [(43, some 11)] :: [(11, none), (44, some 12)] :: [(45, some 13), (44, some 12)] :: [(46, some 14), (44, some 12)] :: [(47, some 15), (44, some 12)] :: [(8, none), (44, some 12)] :: [(48, some 16), (49, some 17), (44, some 12)] :: [(50, some 18), (44, some 12)] :: [(44, some 12), (51, some 19)] :: [(52, some 20)] :: [(2, none), (53, some 21)] :: [(54, some 22), (53, some 21)] :: [(53, some 21), (55, some 23)] :: [(56, some 24)] :: [(2, none), (57, some 25)] :: [(58, some 26), (57, some 25)] :: [(57, some 25), (59, some 27)] :: [(60, some 28)] :: [(4, none), (61, some 29)] :: [(62, some 30), (61, some 29)] :: [(61, some 29), (63, some 31)] :: [(64, some 32)] :: [(4, none), (65, some 33)] :: [(66, some 34), (65, some 33)] :: [(65, some 33), (67, some 35)] :: [(68, some 36)] :: [(11, none), (69, some 37)] :: [(70, some 38), (69, some 37)] :: [(71, some 39), (69, some 37)] :: [(11, none), (69, some 37)] :: [(73, some 41), (69, some 37)] :: [(74, some 42), (69, some 37)] :: [(11, none), (69, some 37)] :: [(76, some 44), (69, some 37)] :: [(77, some 45), (69, some 37)] :: [(0, none), (69, some 37)] :: [(11, none), (69, some 37)] :: [(80, some 48), (69, some 37)] :: [(11, none), (69, some 37)] :: [(82, some 50), (69, some 37)] :: [(79, some 47), (81, some 49), (83, some 51), (69, some 37)] :: [(72, some 40), (75, some 43), (78, some 46), (84, some 52), (69, some 37)] :: [(85, some 53), (69, some 37)] :: [(69, some 37), (86, some 54)] :: []) (?b13_0 :: ?b13_1 :: ?b13_2 :: ?b13_2 :: ?b13_4 :: ?b13_5 :: ?b13_6 :: ?b13_7 :: ?b13_8 :: ?b13_9 :: ?b13_10 :: ?b13_11 :: ?b13_11 :: ?b13_13 :: ?b13_14 :: ?b13_15 :: ?b13_16 :: ?b13_17 :: ?b13_18 :: ?b13_19 :: ?b13_20 :: ?b13_20 :: ?b13_22 :: ?b13_23 :: ?b13_24 :: ?b13_24 :: ?b13_26 :: ?b13_27 :: ?b13_28 :: ?b13_28 :: ?b13_30 :: ?b13_31 :: ?b13_32 :: ?b13_32 :: ?b13_34 :: ?b13_35 :: ?b13_36 :: ?b13_36 :: ?b13_38 :: ?b13_39 :: ?b13_40 :: ?b13_41 :: ?b13_42 :: ?b13_43 :: ?b13_44 :: ?b13_45 :: ?b13_46 :: ?b13_47 :: ?b13_48 :: ?b13_49 :: ?b13_50 :: ?b13_51 :: ?b13_52 :: ?b13_53 :: ?b13_54 :: ?b13_55 :: []) Q0a hr ?t13 ?o13 ?_
 case o13 =>
  apply oc0; intro A W hx hf
  exact Q02 0 tu37 (k := 0) rfl Q0l rfl (o1 s11 hx (r0 hf)) rfl
  apply oc0; intro A W hx hf
  exact Q09 tu3 rfl (q0 ?b13_0 A W 32 hf) rfl
  apply oc0; intro A W hx hf
  exact Q2e (q0 ?b13_1 A W 33 hf) (ec A (.int .i64 0))
  apply oc0; intro A W hx hf
  exact Q0i (q0 ?b13_2 A W 34 hf)
  refine ocg 35 ?_ (fun A W hx hf => ?_) ?_
  rfl
  exact gd_f (q1 ?b13_2 A W 35 hf) (fun hc => Q02 1 tu37 (k := 1) rfl Q1y rfl (o1 s11 hx (r0 hf)) rfl)
  refine ocg 35 ?_ (fun A W hx hf => ?_) ?_
  rfl
  exact gd_f (q1 ?b13_2 A W 35 hf) (fun hc => Q02 1 tu35 (k := 0) rfl Q0v rfl (G.get (q0 ?b13_4 A W 36 hf) hc) rfl)
  refine ocg 35 ?_ (fun A W hx hf => ?_) ?_
  rfl
  exact gd_f (q1 ?b13_2 A W 35 hf) (fun hc => Q02 1 tu25 (k := 0) rfl Q4g rfl (G.get (q0 ?b13_5 A W 37 hf) hc) rfl)
  refine ocg 35 ?_ (fun A W hx hf => ?_) ?_
  rfl
  exact gd_f (q1 ?b13_2 A W 35 hf) (fun hc => Q09 tu4 rfl (G.get (q0 ?b13_6 A W 38 hf) hc) rfl)
  refine ocg 35 ?_ (fun A W hx hf => ?_) ?_
  rfl
  exact gd_f (q1 ?b13_2 A W 35 hf) (fun hc => Q0c 2 tu25 rfl Q0v (o1 s6 hx (r0 hf)) rfl)
  refine ocg 35 ?_ (fun A W hx hf => ?_) ?_
  rfl
  exact gd_f (q2 ?b13_2 A W 35 hf) (fun hc => Q0w Qkb (Qgb (G.get (q0 ?b13_7 A W 39 hf) hc) (Is.conv (G.get (q1 ?b13_8 A W 40 hf) hc) (Q1d Sa)) (by exact hA)))
  refine ocg 35 ?_ (fun A W hx hf => ?_) ?_
  rfl
  exact gd_f (q1 ?b13_2 A W 35 hf) (fun hc => Q39 (G.get (q0 ?b13_9 A W 41 hf) hc))
  apply oc0; intro A W hx hf
  exact Q36 (q0 ?b13_2 A W 35 hf) (q1 ?b13_10 A W 42 hf)
  apply oc0; intro A W hx hf
  exact Q0i (q0 ?b13_11 A W 43 hf)
  refine ocg 44 ?_ (fun A W hx hf => ?_) ?_
  rfl
  exact gd_f (q1 ?b13_11 A W 44 hf) (fun hc => Q02 1 tu37 (k := 1) rfl Q1y rfl (o1 s11 hx (r0 hf)) rfl)
  refine ocg 44 ?_ (fun A W hx hf => ?_) ?_
  rfl
  exact gd_f (q1 ?b13_11 A W 44 hf) (fun hc => Q02 1 tu35 (k := 0) rfl Q0v rfl (G.get (q0 ?b13_13 A W 45 hf) hc) rfl)
  refine ocg 44 ?_ (fun A W hx hf => ?_) ?_
  rfl
  exact gd_f (q1 ?b13_11 A W 44 hf) (fun hc => Q02 1 tu25 (k := 0) rfl Q4g rfl (G.get (q0 ?b13_14 A W 46 hf) hc) rfl)
  refine ocg 44 ?_ (fun A W hx hf => ?_) ?_
  rfl
  exact gd_f (q1 ?b13_11 A W 44 hf) (fun hc => Q09 tu4 rfl (G.get (q0 ?b13_15 A W 47 hf) hc) rfl)
  refine ocg 44 ?_ (fun A W hx hf => ?_) ?_
  rfl
  exact gd_f (q1 ?b13_11 A W 44 hf) (fun hc => Q0c 2 tu25 rfl Q0v (o1 s8 hx (r0 hf)) rfl)
  refine ocg 44 ?_ (fun A W hx hf => ?_) ?_
  rfl
  exact gd_f (q2 ?b13_11 A W 44 hf) (fun hc => Q0w Qkb (Qgb (G.get (q0 ?b13_16 A W 48 hf) hc) (Is.conv (G.get (q1 ?b13_17 A W 49 hf) hc) (Q1d Sb)) (by exact hB)))
  refine ocg 44 ?_ (fun A W hx hf => ?_) ?_
  rfl
  exact gd_f (q1 ?b13_11 A W 44 hf) (fun hc => Q39 (G.get (q0 ?b13_18 A W 50 hf) hc))
  apply oc0; intro A W hx hf
  exact Q36 (q0 ?b13_11 A W 44 hf) (q1 ?b13_19 A W 51 hf)
  apply oc0; intro A W hx hf
  exact Q0i (q0 ?b13_20 A W 52 hf)
  refine ocg 53 ?_ (fun A W hx hf => ?_) ?_
  rfl
  exact gd_f (q1 ?b13_20 A W 53 hf) (fun hc => Q01 (a0 := a12) (r0 hf))
  refine ocg 53 ?_ (fun A W hx hf => ?_) ?_
  rfl
  exact gd_f (q1 ?b13_20 A W 53 hf) (fun hc => Q1g (p2 s2 e_w hx (G.get (q0 ?b13_22 A W 54 hf) hc)) (ec A (.int .i64 0)))
  apply oc0; intro A W hx hf
  exact Q36 (q0 ?b13_20 A W 53 hf) (q1 ?b13_23 A W 55 hf)
  apply oc0; intro A W hx hf
  exact Q0i (q0 ?b13_24 A W 56 hf)
  refine ocg 57 ?_ (fun A W hx hf => ?_) ?_
  rfl
  exact gd_f (q1 ?b13_24 A W 57 hf) (fun hc => Q01 (a0 := a12) (r0 hf))
  refine ocg 57 ?_ (fun A W hx hf => ?_) ?_
  rfl
  exact gd_f (q1 ?b13_24 A W 57 hf) (fun hc => Q3z (p2 s2 e_w hx (G.get (q0 ?b13_26 A W 58 hf) hc)) (ec A (.int .i64 65535)))
  apply oc0; intro A W hx hf
  exact Q36 (q0 ?b13_24 A W 57 hf) (q1 ?b13_27 A W 59 hf)
  apply oc0; intro A W hx hf
  exact Q0i (q0 ?b13_28 A W 60 hf)
  refine ocg 61 ?_ (fun A W hx hf => ?_) ?_
  rfl
  exact gd_f (q1 ?b13_28 A W 61 hf) (fun hc => Q01 (a0 := a12) (r0 hf))
  refine ocg 61 ?_ (fun A W hx hf => ?_) ?_
  rfl
  exact gd_f (q1 ?b13_28 A W 61 hf) (fun hc => Q1g (p2 s4 e_w hx (G.get (q0 ?b13_30 A W 62 hf) hc)) (ec A (.int .i64 0)))
  apply oc0; intro A W hx hf
  exact Q36 (q0 ?b13_28 A W 61 hf) (q1 ?b13_31 A W 63 hf)
  apply oc0; intro A W hx hf
  exact Q0i (q0 ?b13_32 A W 64 hf)
  refine ocg 65 ?_ (fun A W hx hf => ?_) ?_
  rfl
  exact gd_f (q1 ?b13_32 A W 65 hf) (fun hc => Q01 (a0 := a12) (r0 hf))
  refine ocg 65 ?_ (fun A W hx hf => ?_) ?_
  rfl
  exact gd_f (q1 ?b13_32 A W 65 hf) (fun hc => Q3z (p2 s4 e_w hx (G.get (q0 ?b13_34 A W 66 hf) hc)) (ec A (.int .i64 65535)))
  apply oc0; intro A W hx hf
  exact Q36 (q0 ?b13_32 A W 65 hf) (q1 ?b13_35 A W 67 hf)
  apply oc0; intro A W hx hf
  exact Q0i (q0 ?b13_36 A W 68 hf)
  refine ocg 69 ?_ (fun A W hx hf => ?_) ?_
  rfl
  exact gd_f (q1 ?b13_36 A W 69 hf) (fun hc => Q02 1 tu37 (k := 1) rfl Q1y rfl (o1 s11 hx (r0 hf)) rfl)
  refine ocg 69 ?_ (fun A W hx hf => ?_) ?_
  rfl
  exact gd_f (q1 ?b13_36 A W 69 hf) (fun hc => Q02 1 tu35 (k := 0) rfl Q0v rfl (G.get (q0 ?b13_38 A W 70 hf) hc) rfl)
  refine ocg 69 ?_ (fun A W hx hf => ?_) ?_
  rfl
  exact gd_f (q1 ?b13_36 A W 69 hf) (fun hc => Q0c 3 tu25 rfl Q0v (G.get (q0 ?b13_39 A W 71 hf) hc) rfl)
  refine ocg 69 ?_ (fun A W hx hf => ?_) ?_
  rfl
  exact gd_f (q1 ?b13_36 A W 69 hf) (fun hc => Q02 1 tu37 (k := 1) rfl Q1y rfl (o1 s11 hx (r0 hf)) rfl)
  refine ocg 69 ?_ (fun A W hx hf => ?_) ?_
  rfl
  exact gd_f (q1 ?b13_36 A W 69 hf) (fun hc => Q02 3 tu35 (k := 1) rfl Q0v rfl (G.get (q0 ?b13_41 A W 73 hf) hc) rfl)
  refine ocg 69 ?_ (fun A W hx hf => ?_) ?_
  rfl
  exact gd_f (q1 ?b13_36 A W 69 hf) (fun hc => Q0c 5 tu25 rfl Q0v (G.get (q0 ?b13_42 A W 74 hf) hc) rfl)
  refine ocg 69 ?_ (fun A W hx hf => ?_) ?_
  rfl
  exact gd_f (q1 ?b13_36 A W 69 hf) (fun hc => Q02 1 tu37 (k := 1) rfl Q1y rfl (o1 s11 hx (r0 hf)) rfl)
  refine ocg 69 ?_ (fun A W hx hf => ?_) ?_
  rfl
  exact gd_f (q1 ?b13_36 A W 69 hf) (fun hc => Q02 5 tu35 (k := 2) rfl Q0l rfl (G.get (q0 ?b13_44 A W 76 hf) hc) rfl)
  refine ocg 69 ?_ (fun A W hx hf => ?_) ?_
  rfl
  exact gd_f (q1 ?b13_36 A W 69 hf) (fun hc => Q09 tu3 rfl (G.get (q0 ?b13_45 A W 77 hf) hc) rfl)
  refine ocg 69 ?_ (fun A W hx hf => ?_) ?_
  rfl
  exact gd_f (q1 ?b13_36 A W 69 hf) (fun hc => Q01 (a0 := a12) (r0 hf))
  refine ocg 69 ?_ (fun A W hx hf => ?_) ?_
  rfl
  exact gd_f (q1 ?b13_36 A W 69 hf) (fun hc => Q02 10 tu37 (k := 4) rfl Q0l rfl (o1 s11 hx (r0 hf)) rfl)
  refine ocg 69 ?_ (fun A W hx hf => ?_) ?_
  rfl
  exact gd_f (q1 ?b13_36 A W 69 hf) (fun hc => Q09 tu3 rfl (G.get (q0 ?b13_48 A W 80 hf) hc) rfl)
  refine ocg 69 ?_ (fun A W hx hf => ?_) ?_
  rfl
  exact gd_f (q1 ?b13_36 A W 69 hf) (fun hc => Q02 11 tu37 (k := 5) rfl Q0l rfl (o1 s11 hx (r0 hf)) rfl)
  refine ocg 69 ?_ (fun A W hx hf => ?_) ?_
  rfl
  exact gd_f (q1 ?b13_36 A W 69 hf) (fun hc => Q09 tu3 rfl (G.get (q0 ?b13_50 A W 82 hf) hc) rfl)
  refine ocg 69 ?_ (fun A W hx hf => ?_) ?_
  rfl
  exact gd_f (q3 ?b13_36 A W 69 hf) (fun hc => Q2z (Q21 l) (endP l) tu22 Q0t (p2 s0 e_w hx (G.get (q0 ?b13_47 A W 79 hf) hc)) (Is.int (G.get (q1 ?b13_49 A W 81 hf) hc) (by exact (Q6b (Qf1 hc)).2.2.1)) (Is.int (G.get (q2 ?b13_51 A W 83 hf) hc) (by exact (Q6b (Qf1 hc)).2.2.2.1)) (by have b9 := Q7q (Qf1 hc); have h1 := b9.seg; have h2 := b9.len; omega) (by have b9 := Q7q (Qf1 hc); have h1 := b9.seg; have h2 := b9.len; omega))
  refine ocg 69 ?_ (fun A W hx hf => ?_) ?_
  rfl
  exact gd_f (q4 ?b13_36 A W 69 hf) (fun hc => Q44 Qje (Q9h (Is.conv (G.get (q0 ?b13_40 A W 72 hf) hc) (show _ = AdrV (Q0d l).tup.src from Q1d _)) (Is.conv (G.get (q1 ?b13_43 A W 75 hf) hc) (show _ = AdrV (Q0d l).tup.dst from Q1d _)) (G.get (q2 ?b13_46 A W 78 hf) hc) (G.get (q3 ?b13_52 A W 84 hf) hc) (by exact (Q32 l).1) (by exact (Q32 l).2) (by exact Qq5 (Qf1 hc)) (by unfold subl; simp; omega)))
  refine ocg 69 ?_ (fun A W hx hf => ?_) ?_
  rfl
  exact gd_f (q1 ?b13_36 A W 69 hf) (fun hc => Q39 (G.get (q0 ?b13_53 A W 85 hf) hc))
  apply oc0; intro A W hx hf
  exact Q36 (q0 ?b13_36 A W 69 hf) (q1 ?b13_54 A W 86 hf)
  exact onn
 case t13 => repeat (first | exact Q5z | refine Q4q ?_)
 clear hr; intro a14 w14 x hr hd hs
 revert s11; revert s8; revert s6; revert s4; revert s2; revert s0; refine kp6 hs rfl ?_; intro s0 s2 s4 s6 s8 s11
 have s87 := fa ?b13_55 a14 w14 87 (hd 55 87 rfl)
 replace e_w := e_w.trans x
 have e_w12 := x; clear hd hs x
 refine et ?_
 refine wp_cond_split (show _ = _ from s87) (fun hc8 => ?_) (fun hc8 => ?_)
 ·
  skip
  refine sq ?_
  refine Q05 198 [[]] [?b16_0] Q0a hr ?t16 ?o16 ?_
  case o16 =>
   apply oc0; intro A W hx hf
   exact Q07
   exact onn
  case t16 => exact inferInstance
  clear hr; intro a17 w17 x hr hd hs
  clear s0 s2 s4 s6 s8 s11 s87
  have s10 := fa ?b16_0 a17 w17 10 (hd 0 10 rfl)
  replace e_w := e_w.trans x
  clear e_w12; clear hd hs x
  refine et ?_
  refine wp_ret ?_
  refine Q0f ?_
  refine Q10 Try.results7 hr e_w ?_
  first | with_reducible exact s10 | exact Is.bool s10 (by simp)
 obtain ⟨P, Q⟩ := Qsf hc8
 have b := Q7q P.fine
 have hbl := b.len
 have h14 := b.a14
 obtain ⟨np1, np2, np3, np4, np5, np6, np7, np8, np9, np10⟩ := Q1b (dst := true) b
 have hpp : Q22 (pkN l).1.proto = (atN (pkN l).1.proto : Int) := (Q8s P.fine.po).2.1
 have hck9 : ck12 l = Q21 l + atN (pkN l).1.proto := rfl
 have hip9 : ip12 l = pkA l + 10 := rfl
 have hsg := b.h20
 replace s11 := PxS.cast s11 (show _ = pktF (natK l) from by rw [P.eq, Qgt P.fine]; first | done | rfl)
 refine wp_skip ?_
 refine es ?_
 refine Q05 198 [[(11, none)], [(88, some 0)], [(11, none)], [(90, some 2)], [(91, some 3)], [(92, some 4)], [(89, some 1), (93, some 5)], [(94, some 6)]] [?b18_0, ?b18_1, ?b18_2, ?b18_3, ?b18_4, ?b18_5, ?b18_6, ?b18_6] Q0a hr ?t18 ?o18 ?_
 case o18 =>
  apply oc0; intro A W hx hf
  exact Q02 10 tu37 (k := 4) rfl Q0l rfl (o2 s11 e_w12 hx (r0 hf)) rfl
  apply oc0; intro A W hx hf
  exact Q09 tu3 rfl (q0 ?b18_0 A W 88 hf) rfl
  apply oc0; intro A W hx hf
  exact Q02 1 tu37 (k := 1) rfl Q1y rfl (o2 s11 e_w12 hx (r0 hf)) rfl
  apply oc0; intro A W hx hf
  exact Q02 5 tu35 (k := 2) rfl Q0l rfl (q0 ?b18_2 A W 90 hf) rfl
  apply oc0; intro A W hx hf
  exact Q09 tu3 rfl (q0 ?b18_3 A W 91 hf) rfl
  apply oc0; intro A W hx hf
  exact Q1c Qoc (Qcf (q0 ?b18_4 A W 92 hf))
  apply oc0; intro A W hx hf
  exact Q0p (q0 ?b18_1 A W 89 hf) (q1 ?b18_5 A W 93 hf) (by show (-9223372036854775808 : Int) ≤ (Q21 l : Int) + Q22 (pkN l).1.proto ∧ (Q21 l : Int) + Q22 (pkN l).1.proto ≤ 9223372036854775807; omega)
  apply oc0; intro A W hx hf
  exact Q03 (q0 ?b18_6 A W 94 hf)
  exact onn
 case t18 => exact inferInstance
 clear hr; intro a19 w19 x hr hd hs
 revert s11; revert s8; revert s6; revert s4; revert s2; revert s0; refine kp6 hs rfl ?_; intro s0 s2 s4 s6 s8 s11
 clear s87
 have s12 := fa ?b18_6 a19 w19 12 (hd 7 12 rfl)
 replace e_w := e_w.trans x
 replace e_w12 := e_w12.trans x; clear hd hs x
 replace s12 := Is.int s12 (show _ = (ck12 l : Int) from by show (Q21 l : Int) + Q22 (pkN l).1.proto = _; omega)
 refine es ?_
 refine Q05 198 [[(11, none)], [(95, some 0)], [(96, some 1)], [(97, some 2)]] [?b20_0, ?b20_1, ?b20_2, ?b20_2] Q0a hr ?t20 ?o20 ?_
 case o20 =>
  apply oc0; intro A W hx hf
  exact Q02 9 tu37 (k := 3) rfl Q0l rfl (o2 s11 e_w12 hx (r0 hf)) rfl
  apply oc0; intro A W hx hf
  exact Q09 tu3 rfl (q0 ?b20_0 A W 95 hf) rfl
  apply oc0; intro A W hx hf
  exact Q0p (q0 ?b20_1 A W 96 hf) (ec A (.int .i64 10)) (by show (-9223372036854775808 : Int) ≤ (pkA l : Int) + 10 ∧ (pkA l : Int) + 10 ≤ 9223372036854775807; omega)
  apply oc0; intro A W hx hf
  exact Q03 (q0 ?b20_2 A W 97 hf)
  exact onn
 case t20 => exact inferInstance
 clear hr; intro a21 w21 x hr hd hs
 revert s11; revert s8; revert s6; revert s4; revert s2; revert s0; refine kp6 hs rfl ?_; intro s0 s2 s4 s6 s8 s11
 revert s12; refine kp1 hs rfl ?_; intro s12
 have s13 := fa ?b20_2 a21 w21 13 (hd 3 13 rfl)
 replace e_w := e_w.trans x
 replace e_w12 := e_w12.trans x
 have e_w19 := x; clear hd hs x
 replace s13 := Is.int s13 (show _ = (ip12 l : Int) from by show (pkA l : Int) + 10 = _; omega)
 refine es ?_
 refine sq ?_
 refine Q05 198 ([(11, none)] :: [(98, some 0)] :: [(99, some 1)] :: [(100, some 2)] :: [(101, some 3)] :: [(0, none), (102, some 4)] :: [(12, none), (102, some 4)] :: [(103, some 5), (104, some 6), (102, some 4)] :: [(105, some 7), (102, some 4)] :: [(106, some 8), (102, some 4)] :: [(102, some 4), (107, some 9)] :: [(108, some 10)] :: [(0, none), (109, some 11)] :: [(12, none), (109, some 11)] :: [(111, some 13), (109, some 11)] :: [(110, some 12), (112, some 14), (109, some 11)] :: [(113, some 15), (109, some 11)] :: [(114, some 16), (109, some 11)] :: [(109, some 11), (115, some 17)] :: [(116, some 18)] :: [(11, none), (117, some 19)] :: [(118, some 20), (117, some 19)] :: [(119, some 21), (117, some 19)] :: [(120, some 22), (117, some 19)] :: [(121, some 23), (117, some 19)] :: [(122, some 24), (117, some 19)] :: [(0, none), (123, some 25)] :: [(13, none), (123, some 25)] :: [(124, some 26), (125, some 27), (123, some 25)] :: [(126, some 28), (123, some 25)] :: [(127, some 29), (123, some 25)] :: [(123, some 25), (128, some 30), (117, some 19)] :: [(129, some 31), (117, some 19)] :: [(0, none), (130, some 32)] :: [(13, none), (130, some 32)] :: [(132, some 34), (130, some 32)] :: [(131, some 33), (133, some 35), (130, some 32)] :: [(134, some 36), (130, some 32)] :: [(135, some 37), (130, some 32)] :: [(130, some 32), (136, some 38), (117, some 19)] :: [(117, some 19), (137, some 39)] :: []) (?b22_0 :: ?b22_1 :: ?b22_2 :: ?b22_3 :: ?b22_3 :: ?b22_5 :: ?b22_6 :: ?b22_7 :: ?b22_8 :: ?b22_9 :: ?b22_10 :: ?b22_10 :: ?b22_12 :: ?b22_13 :: ?b22_14 :: ?b22_15 :: ?b22_16 :: ?b22_17 :: ?b22_18 :: ?b22_18 :: ?b22_20 :: ?b22_21 :: ?b22_22 :: ?b22_23 :: ?b22_24 :: ?b22_24 :: ?b22_26 :: ?b22_27 :: ?b22_28 :: ?b22_29 :: ?b22_30 :: ?b22_31 :: ?b22_31 :: ?b22_33 :: ?b22_34 :: ?b22_35 :: ?b22_36 :: ?b22_37 :: ?b22_38 :: ?b22_39 :: ?b22_40 :: []) Q0a hr ?t22 ?o22 ?_
 case o22 =>
  apply oc0; intro A W hx hf
  exact Q02 1 tu37 (k := 1) rfl Q1y rfl (o2 s11 e_w12 hx (r0 hf)) rfl
  apply oc0; intro A W hx hf
  exact Q02 5 tu35 (k := 2) rfl Q0l rfl (q0 ?b22_0 A W 98 hf) rfl
  apply oc0; intro A W hx hf
  exact Q09 tu3 rfl (q0 ?b22_1 A W 99 hf) rfl
  apply oc0; intro A W hx hf
  exact Q1a (q0 ?b22_2 A W 100 hf) (ec A (.int .i64 6))
  apply oc0; intro A W hx hf
  exact Q0i (q0 ?b22_3 A W 101 hf)
  refine ocg 102 ?_ (fun A W hx hf => ?_) ?_
  rfl
  exact gd_t (q1 ?b22_3 A W 102 hf) (fun hc => Q01 (a0 := a21) (r0 hf))
  refine ocg 102 ?_ (fun A W hx hf => ?_) ?_
  rfl
  exact gd_t (q1 ?b22_3 A W 102 hf) (fun hc => Q01 (a0 := a21) (r0 hf))
  refine ocg 102 ?_ (fun A W hx hf => ?_) ?_
  rfl
  exact gd_t (q2 ?b22_3 A W 102 hf) (fun hc => Q0j (ck12 l) tu22 Q0t (p2 s0 e_w hx (G.get (q0 ?b22_5 A W 103 hf) hc)) (p2 s12 e_w19 hx (G.get (q1 ?b22_6 A W 104 hf) hc)) (by omega))
  refine ocg 102 ?_ (fun A W hx hf => ?_) ?_
  rfl
  exact gd_t (q1 ?b22_3 A W 102 hf) (fun hc => Q0y tu5 rfl (G.get (q0 ?b22_7 A W 105 hf) hc))
  refine ocg 102 ?_ (fun A W hx hf => ?_) ?_
  rfl
  exact gd_t (q1 ?b22_3 A W 102 hf) (fun hc => Q1a (G.get (q0 ?b22_8 A W 106 hf) hc) (ec A (.int .u8 255)))
  apply oc0; intro A W hx hf
  exact Q1x (q0 ?b22_3 A W 102 hf) (q1 ?b22_9 A W 107 hf)
  apply oc0; intro A W hx hf
  exact Q0i (q0 ?b22_10 A W 108 hf)
  refine ocg 109 ?_ (fun A W hx hf => ?_) ?_
  rfl
  exact gd_t (q1 ?b22_10 A W 109 hf) (fun hc => Q01 (a0 := a21) (r0 hf))
  refine ocg 109 ?_ (fun A W hx hf => ?_) ?_
  rfl
  exact gd_t (q1 ?b22_10 A W 109 hf) (fun hc => Q01 (a0 := a21) (r0 hf))
  refine ocg 109 ?_ (fun A W hx hf => ?_) ?_
  rfl
  exact gd_t (q1 ?b22_10 A W 109 hf) (fun hc => Q0p (p2 s12 e_w19 hx (G.get (q0 ?b22_13 A W 111 hf) hc)) (ec A (.int .i64 1)) (by omega))
  refine ocg 109 ?_ (fun A W hx hf => ?_) ?_
  rfl
  exact gd_t (q2 ?b22_10 A W 109 hf) (fun hc => Q0j (ck12 l + 1) tu22 Q0t (p2 s0 e_w hx (G.get (q0 ?b22_12 A W 110 hf) hc)) (Is.int (G.get (q1 ?b22_14 A W 112 hf) hc) (by omega)) (by omega))
  refine ocg 109 ?_ (fun A W hx hf => ?_) ?_
  rfl
  exact gd_t (q1 ?b22_10 A W 109 hf) (fun hc => Q0y tu5 rfl (G.get (q0 ?b22_15 A W 113 hf) hc))
  refine ocg 109 ?_ (fun A W hx hf => ?_) ?_
  rfl
  exact gd_t (q1 ?b22_10 A W 109 hf) (fun hc => Q1a (G.get (q0 ?b22_16 A W 114 hf) hc) (ec A (.int .u8 255)))
  apply oc0; intro A W hx hf
  exact Q1x (q0 ?b22_10 A W 109 hf) (q1 ?b22_17 A W 115 hf)
  apply oc0; intro A W hx hf
  exact Q0i (q0 ?b22_18 A W 116 hf)
  refine ocg 117 ?_ (fun A W hx hf => ?_) ?_
  rfl
  exact gd_f (q1 ?b22_18 A W 117 hf) (fun hc => Q02 1 tu37 (k := 1) rfl Q1y rfl (o2 s11 e_w12 hx (r0 hf)) rfl)
  refine ocg 117 ?_ (fun A W hx hf => ?_) ?_
  rfl
  exact gd_f (q1 ?b22_18 A W 117 hf) (fun hc => Q02 1 tu35 (k := 0) rfl Q0v rfl (G.get (q0 ?b22_20 A W 118 hf) hc) rfl)
  refine ocg 117 ?_ (fun A W hx hf => ?_) ?_
  rfl
  exact gd_f (q1 ?b22_18 A W 117 hf) (fun hc => Q02 1 tu25 (k := 0) rfl Q4g rfl (G.get (q0 ?b22_21 A W 119 hf) hc) rfl)
  refine ocg 117 ?_ (fun A W hx hf => ?_) ?_
  rfl
  exact gd_f (q1 ?b22_18 A W 117 hf) (fun hc => Q09 tu4 rfl (G.get (q0 ?b22_22 A W 120 hf) hc) rfl)
  refine ocg 117 ?_ (fun A W hx hf => ?_) ?_
  rfl
  exact gd_f (q1 ?b22_18 A W 117 hf) (fun hc => Q39 (G.get (q0 ?b22_23 A W 121 hf) hc))
  refine ocg 117 ?_ (fun A W hx hf => ?_) ?_
  rfl
  exact gd_f (q1 ?b22_18 A W 117 hf) (fun hc => Q0i (G.get (q0 ?b22_24 A W 122 hf) hc))
  refine ocg 123 ?_ (fun A W hx hf => ?_) ?_
  rfl
  exact Qah (q1 ?b22_24 A W 123 hf) (fun hc => Q01 (a0 := a21) (r0 hf))
  refine ocg 123 ?_ (fun A W hx hf => ?_) ?_
  rfl
  exact Qah (q1 ?b22_24 A W 123 hf) (fun hc => Q01 (a0 := a21) (r0 hf))
  refine ocg 123 ?_ (fun A W hx hf => ?_) ?_
  rfl
  exact Qah (q2 ?b22_24 A W 123 hf) (fun hc => Q0j (ip12 l) tu22 Q0t (p2 s0 e_w hx (G.get (q0 ?b22_26 A W 124 hf) hc)) (p1 s13 hx (G.get (q1 ?b22_27 A W 125 hf) hc)) (by omega))
  refine ocg 123 ?_ (fun A W hx hf => ?_) ?_
  rfl
  exact Qah (q1 ?b22_24 A W 123 hf) (fun hc => Q0y tu5 rfl (G.get (q0 ?b22_28 A W 126 hf) hc))
  refine ocg 123 ?_ (fun A W hx hf => ?_) ?_
  rfl
  exact Qah (q1 ?b22_24 A W 123 hf) (fun hc => Q1a (G.get (q0 ?b22_29 A W 127 hf) hc) (ec A (.int .u8 255)))
  refine ocg 117 ?_ (fun A W hx hf => ?_) ?_
  rfl
  exact gd_f (q2 ?b22_18 A W 117 hf) (fun hc => Q1x (G.get (q0 ?b22_24 A W 123 hf) hc) (G.strip hc (q1 ?b22_30 A W 128 hf)))
  refine ocg 117 ?_ (fun A W hx hf => ?_) ?_
  rfl
  exact gd_f (q1 ?b22_18 A W 117 hf) (fun hc => Q0i (G.get (q0 ?b22_31 A W 129 hf) hc))
  refine ocg 130 ?_ (fun A W hx hf => ?_) ?_
  rfl
  exact Qah (q1 ?b22_31 A W 130 hf) (fun hc => Q01 (a0 := a21) (r0 hf))
  refine ocg 130 ?_ (fun A W hx hf => ?_) ?_
  rfl
  exact Qah (q1 ?b22_31 A W 130 hf) (fun hc => Q01 (a0 := a21) (r0 hf))
  refine ocg 130 ?_ (fun A W hx hf => ?_) ?_
  rfl
  exact Qah (q1 ?b22_31 A W 130 hf) (fun hc => Q0p (p1 s13 hx (G.get (q0 ?b22_34 A W 132 hf) hc)) (ec A (.int .i64 1)) (by omega))
  refine ocg 130 ?_ (fun A W hx hf => ?_) ?_
  rfl
  exact Qah (q2 ?b22_31 A W 130 hf) (fun hc => Q0j (ip12 l + 1) tu22 Q0t (p2 s0 e_w hx (G.get (q0 ?b22_33 A W 131 hf) hc)) (Is.int (G.get (q1 ?b22_35 A W 133 hf) hc) (by omega)) (by omega))
  refine ocg 130 ?_ (fun A W hx hf => ?_) ?_
  rfl
  exact Qah (q1 ?b22_31 A W 130 hf) (fun hc => Q0y tu5 rfl (G.get (q0 ?b22_36 A W 134 hf) hc))
  refine ocg 130 ?_ (fun A W hx hf => ?_) ?_
  rfl
  exact Qah (q1 ?b22_31 A W 130 hf) (fun hc => Q1a (G.get (q0 ?b22_37 A W 135 hf) hc) (ec A (.int .u8 255)))
  refine ocg 117 ?_ (fun A W hx hf => ?_) ?_
  rfl
  exact gd_f (q2 ?b22_18 A W 117 hf) (fun hc => Q1x (G.get (q0 ?b22_31 A W 130 hf) hc) (G.strip hc (q1 ?b22_38 A W 136 hf)))
  apply oc0; intro A W hx hf
  exact Q36 (q0 ?b22_18 A W 117 hf) (q1 ?b22_39 A W 137 hf)
  exact onn
 case t22 => repeat (first | exact Q5z | refine Q4q ?_)
 clear hr; intro a23 w23 x hr hd hs
 revert s11; revert s8; revert s6; revert s4; revert s2; revert s0; refine kp6 hs rfl ?_; intro s0 s2 s4 s6 s8 s11
 clear s12 s13
 have s138 := fa ?b22_40 a23 w23 138 (hd 40 138 rfl)
 replace e_w := e_w.trans x
 replace e_w12 := e_w12.trans x
 clear e_w19; clear hd hs x
 refine et ?_
 refine wp_cond_split (show _ = _ from s138) (fun hc9 => ?_) (fun hc9 => ?_)
 ·
  skip
  refine sq ?_
  refine Q05 198 [[]] [?b25_0] Q0a hr ?t25 ?o25 ?_
  case o25 =>
   apply oc0; intro A W hx hf
   exact Q07
   exact onn
  case t25 => exact inferInstance
  clear hr; intro a26 w26 x hr hd hs
  clear s0 s2 s4 s6 s8 s11 s138
  have s10 := fa ?b25_0 a26 w26 10 (hd 0 10 rfl)
  replace e_w := e_w.trans x
  clear e_w12; clear hd hs x
  refine et ?_
  refine wp_ret ?_
  refine Q0f ?_
  refine Q10 Try.results7 hr e_w ?_
  first | with_reducible exact s10 | exact Is.bool s10 (by simp)
 have c := Qnl P.fine b rfl (fun _ => rfl) (fun _ => rfl) (fun _ => rfl) (fun _ => rfl) hc9
 obtain ⟨nb1, nb2, nb3, nb4⟩ := Qnj P Q hA hB c
 have ok1 := (Q5t (dst := true) (Qdc P)).1
 have ok2 := (Q5t (dst := true) nb1).1
 have ok3 := (Q5t (dst := true) nb3).1
 have ok4 := (Q5t (dst := true) (Qdc Q)).1
 have ln1 := Q57 (n := n) (dst := true) b hA
 have ln2 := Q57 (n := p) (dst := true) b hB
 refine wp_skip ?_
 refine es ?_
 refine Q05 198 [[(0, none)], [(6, none)], [(2, none)], [(140, some 0), (141, some 1), (142, some 2)], [(143, some 3)], [(139, some 4)], [(139, some 4)], [(144, some 5)], [(145, some 6)]] [?b27_0, ?b27_1, ?b27_2, ?b27_3, ?b27_3, ?b27_5, ?b27_6, ?b27_5, ?b27_6] Q0a hr ?t27 ?o27 ?_
 case o27 =>
  apply oc0; intro A W hx hf
  exact Q01 (a0 := a23) (r0 hf)
  apply oc0; intro A W hx hf
  exact Q0c 2 tu25 rfl Q0v (o2 s6 e_w12 hx (r0 hf)) rfl
  apply oc0; intro A W hx hf
  exact Q01 (a0 := a23) (r0 hf)
  apply oc0; intro A W hx hf
  exact Q27 Q7p (Qbl (p2 s0 e_w hx (q0 ?b27_0 A W 140 hf)) (Is.conv (q1 ?b27_1 A W 141 hf) (Q1d Sa)) (p2 s2 e_w hx (q2 ?b27_2 A W 142 hf)) (by exact hA) (by omega) hx.size)
  apply oc0; intro A W hx hf
  exact Q0i (q0 ?b27_3 A W 143 hf)
  apply oc0; intro A W hx hf
  exact Q1z (q0 ?b27_3 A W 139 hf)
  apply oc0; intro A W hx hf
  exact Q20 (q0 ?b27_3 A W 139 hf)
  apply oc0; intro A W hx hf
  exact Q03 (q0 ?b27_5 A W 144 hf)
  apply oc0; intro A W hx hf
  exact Q03 (q0 ?b27_6 A W 145 hf)
  exact onn
 case t27 => exact inferInstance
 clear hr; intro a28 w28 x hr hd hs
 have z_w_w23 := e_w.size
 have z_w12_w23 := e_w12.size
 have l28_6 := PxS.lt (Q00 e_w12 s6)
 have l28_8 := PxS.lt (Q00 e_w12 s8)
 have l28_11 := PxS.lt (Q00 e_w12 s11)
 revert s11; revert s8; revert s4; revert s0; refine kp4 hs rfl ?_; intro s0 s4 s8 s11
 clear s2 s6 s138
 have s14 := fa ?b27_5 a28 w28 14 (hd 7 14 rfl)
 have s15 := fa ?b27_6 a28 w28 15 (hd 8 15 rfl)
 obtain ⟨g28_14, q28_14⟩ := OwnB.at s14; clear s14; have n28_14 := OwnBA.lt q28_14
 replace q28_14 := OwnBA.mono q28_14 e_w.size
 have s14 := q28_14; clear q28_14
 replace e_w := e_w.trans x
 replace e_w12 := e_w12.trans x; clear hd hs x
 replace s14 := OwnBA.cast s14 (show _ = natX l Sa n true from by rw [ok1])
 replace s15 := Is.int s15 (show _ = (0 : Int) from by rw [ok1])
 refine es ?_
 refine Q05 198 [[(14, none)], [(8, none)], [(4, none)], [(147, some 0), (148, some 1), (149, some 2)], [(150, some 3)], [(146, some 4)], [(146, some 4)], [(151, some 5)], [(152, some 6)]] [?b29_0, ?b29_1, ?b29_2, ?b29_3, ?b29_3, ?b29_5, ?b29_6, ?b29_5, ?b29_6] Q0a hr ?t29 ?o29 ?_
 case o29 =>
  apply oc0; intro A W hx hf
  exact Q01 (a0 := a28) (r0 hf)
  apply oc0; intro A W hx hf
  exact Q0c 2 tu25 rfl Q0v (o2 s8 e_w12 hx (r0 hf)) rfl
  apply oc0; intro A W hx hf
  exact Q01 (a0 := a28) (r0 hf)
  apply oc0; intro A W hx hf
  exact Q27 Q7p (Qbl (OwnBA.bs (p1 s14 hx (q0 ?b29_0 A W 147 hf))) (Is.conv (q1 ?b29_1 A W 148 hf) (Q1d Sb)) (p2 s4 e_w hx (q2 ?b29_2 A W 149 hf)) (by exact hB) (by omega) hx.size)
  apply oc0; intro A W hx hf
  exact Q0i (q0 ?b29_3 A W 150 hf)
  apply oc0; intro A W hx hf
  exact Q1z (q0 ?b29_3 A W 146 hf)
  apply oc0; intro A W hx hf
  exact Q20 (q0 ?b29_3 A W 146 hf)
  apply oc0; intro A W hx hf
  exact Q03 (q0 ?b29_5 A W 151 hf)
  apply oc0; intro A W hx hf
  exact Q03 (q0 ?b29_6 A W 152 hf)
  exact onn
 case t29 => exact inferInstance
 clear hr; intro a30 w30 x hr hd hs
 have z_w_w28 := e_w.size
 have z_w12_w28 := e_w12.size
 have l30_8 := PxS.lt (Q00 e_w12 s8)
 have l30_11 := PxS.lt (Q00 e_w12 s11)
 have l30_14 := OwnBA.lt s14
 revert s15; revert s11; revert s8; revert s4; revert s0; refine kp5 hs rfl ?_; intro s0 s4 s8 s11 s15
 clear s14
 have s16 := fa ?b29_5 a30 w30 16 (hd 7 16 rfl)
 have s17 := fa ?b29_6 a30 w30 17 (hd 8 17 rfl)
 obtain ⟨g30_16, q30_16⟩ := OwnB.at s16; clear s16; have n30_16 := OwnBA.lt q30_16
 replace q30_16 := OwnBA.mono q30_16 e_w.size
 have s16 := q30_16; clear q30_16
 replace e_w := e_w.trans x
 replace e_w12 := e_w12.trans x
 have e_w28 := x; clear hd hs x
 replace s16 := OwnBA.cast s16 (show _ = natX l Sb p true from by rw [ok2]; exact nb2)
 replace s17 := Is.int s17 (show _ = (0 : Int) from by rw [ok2])
 refine es ?_
 refine Q05 198 [[(16, none)], [(11, none)], [(155, some 1)], [(156, some 2)], [(11, none)], [(158, some 4)], [(159, some 5)], [(154, some 0), (157, some 3), (160, some 6)], [(161, some 7)], [(153, some 8)], [(153, some 8)], [(162, some 9)], [(163, some 10)]] [?b31_0, ?b31_1, ?b31_2, ?b31_3, ?b31_4, ?b31_5, ?b31_6, ?b31_7, ?b31_7, ?b31_9, ?b31_10, ?b31_9, ?b31_10] Q0a hr ?t31 ?o31 ?_
 case o31 =>
  apply oc0; intro A W hx hf
  exact Q01 (a0 := a30) (r0 hf)
  apply oc0; intro A W hx hf
  exact Q02 1 tu37 (k := 1) rfl Q1y rfl (o2 s11 e_w12 hx (r0 hf)) rfl
  apply oc0; intro A W hx hf
  exact Q02 3 tu35 (k := 1) rfl Q0v rfl (q0 ?b31_1 A W 155 hf) rfl
  apply oc0; intro A W hx hf
  exact Q0c 5 tu25 rfl Q0v (q0 ?b31_2 A W 156 hf) rfl
  apply oc0; intro A W hx hf
  exact Q02 1 tu37 (k := 1) rfl Q1y rfl (o2 s11 e_w12 hx (r0 hf)) rfl
  apply oc0; intro A W hx hf
  exact Q02 7 tu35 (k := 4) rfl Q0l rfl (q0 ?b31_4 A W 158 hf) rfl
  apply oc0; intro A W hx hf
  exact Q09 tu3 rfl (q0 ?b31_5 A W 159 hf) rfl
  apply oc0; intro A W hx hf
  exact Q27 Q7p (Qbl (OwnBA.bs (p1 s16 hx (q0 ?b31_0 A W 154 hf))) (Is.conv (q1 ?b31_3 A W 157 hf) (show _ = AdrV (Q2p l).dst from Q1d _)) (q2 ?b31_6 A W 160 hf) (by exact (Q9f l).2) (by omega) hx.size)
  apply oc0; intro A W hx hf
  exact Q0i (q0 ?b31_7 A W 161 hf)
  apply oc0; intro A W hx hf
  exact Q1z (q0 ?b31_7 A W 153 hf)
  apply oc0; intro A W hx hf
  exact Q20 (q0 ?b31_7 A W 153 hf)
  apply oc0; intro A W hx hf
  exact Q03 (q0 ?b31_9 A W 162 hf)
  apply oc0; intro A W hx hf
  exact Q03 (q0 ?b31_10 A W 163 hf)
  exact onn
 case t31 => exact inferInstance
 clear hr; intro a32 w32 x hr hd hs
 have z_w_w30 := e_w.size
 have z_w12_w30 := e_w12.size
 have z_w28_w30 := e_w28.size
 have l32_8 := PxS.lt (Q00 e_w12 s8)
 have l32_11 := PxS.lt (Q00 e_w12 s11)
 have l32_16 := OwnBA.lt s16
 revert s16; revert s15; revert s11; revert s8; revert s4; revert s0; refine kp6 hs rfl ?_; intro s0 s4 s8 s11 s15 s16
 revert s17; refine kp1 hs rfl ?_; intro s17
 have s18 := fa ?b31_9 a32 w32 18 (hd 11 18 rfl)
 have s19 := fa ?b31_10 a32 w32 19 (hd 12 19 rfl)
 obtain ⟨g32_18, q32_18⟩ := OwnB.at s18; clear s18; have n32_18 := OwnBA.lt q32_18
 replace q32_18 := OwnBA.mono q32_18 e_w.size
 have s18 := q32_18; clear q32_18
 replace e_w := e_w.trans x
 replace e_w12 := e_w12.trans x
 replace e_w28 := e_w28.trans x
 have e_w30 := x; clear hd hs x
 replace s18 := OwnBA.cast s18 (show _ = l.take (endP l) from (congrArg Prod.fst ok3).trans nb4)
 replace s19 := Is.int s19 (show _ = (0 : Int) from congrArg Prod.snd ok3)
 refine es ?_
 refine Q05 198 [[(0, none)], [(8, none)], [(4, none)], [(165, some 0), (166, some 1), (167, some 2)], [(168, some 3)], [(164, some 4)], [(164, some 4)], [(169, some 5)], [(170, some 6)]] [?b33_0, ?b33_1, ?b33_2, ?b33_3, ?b33_3, ?b33_5, ?b33_6, ?b33_5, ?b33_6] Q0a hr ?t33 ?o33 ?_
 case o33 =>
  apply oc0; intro A W hx hf
  exact Q01 (a0 := a32) (r0 hf)
  apply oc0; intro A W hx hf
  exact Q0c 2 tu25 rfl Q0v (o2 s8 e_w12 hx (r0 hf)) rfl
  apply oc0; intro A W hx hf
  exact Q01 (a0 := a32) (r0 hf)
  apply oc0; intro A W hx hf
  exact Q27 Q7p (Qbl (p2 s0 e_w hx (q0 ?b33_0 A W 165 hf)) (Is.conv (q1 ?b33_1 A W 166 hf) (Q1d Sb)) (p2 s4 e_w hx (q2 ?b33_2 A W 167 hf)) (by exact hB) (by omega) hx.size)
  apply oc0; intro A W hx hf
  exact Q0i (q0 ?b33_3 A W 168 hf)
  apply oc0; intro A W hx hf
  exact Q1z (q0 ?b33_3 A W 164 hf)
  apply oc0; intro A W hx hf
  exact Q20 (q0 ?b33_3 A W 164 hf)
  apply oc0; intro A W hx hf
  exact Q03 (q0 ?b33_5 A W 169 hf)
  apply oc0; intro A W hx hf
  exact Q03 (q0 ?b33_6 A W 170 hf)
  exact onn
 case t33 => exact inferInstance
 clear hr; intro a34 w34 x hr hd hs
 have z_w_w32 := e_w.size
 have z_w12_w32 := e_w12.size
 have z_w28_w32 := e_w28.size
 have z_w30_w32 := e_w30.size
 have l34_8 := PxS.lt (Q00 e_w12 s8)
 have l34_11 := PxS.lt (Q00 e_w12 s11)
 have l34_16 := OwnBA.lt (Q00 e_w30 s16)
 have l34_18 := OwnBA.lt s18
 revert s18; revert s17; revert s16; revert s15; revert s11; revert s0; refine kp6 hs rfl ?_; intro s0 s11 s15 s16 s17 s18
 revert s19; refine kp1 hs rfl ?_; intro s19
 clear s4 s8
 have s20 := fa ?b33_5 a34 w34 20 (hd 7 20 rfl)
 have s21 := fa ?b33_6 a34 w34 21 (hd 8 21 rfl)
 obtain ⟨g34_20, q34_20⟩ := OwnB.at s20; clear s20; have n34_20 := OwnBA.lt q34_20
 replace q34_20 := OwnBA.mono q34_20 e_w.size
 have s20 := q34_20; clear q34_20
 replace e_w := e_w.trans x
 replace e_w12 := e_w12.trans x
 replace e_w28 := e_w28.trans x
 replace e_w30 := e_w30.trans x
 have e_w32 := x; clear hd hs x
 replace s20 := OwnBA.cast s20 (show _ = natX l Sb p true from by rw [ok4])
 replace s21 := Is.int s21 (show _ = (0 : Int) from by rw [ok4])
 refine es ?_
 refine Q05 198 [[(15, none)], [(171, some 0)], [(172, some 1)], [(17, none), (173, some 2)], [(174, some 3), (173, some 2)], [(173, some 2), (175, some 4)], [(176, some 5)], [(19, none), (177, some 6)], [(178, some 7), (177, some 6)], [(177, some 6), (179, some 8)], [(180, some 9)], [(21, none), (181, some 10)], [(182, some 11), (181, some 10)], [(181, some 10), (183, some 12)], [(184, some 13)], [(18, none), (185, some 14)], [(0, none), (185, some 14)], [(11, none), (185, some 14)], [(188, some 17), (185, some 14)], [(187, some 16), (189, some 18), (185, some 14)], [(186, some 15), (190, some 19), (185, some 14)], [(185, some 14), (191, some 20)], [(192, some 21)], [(16, none), (193, some 22)], [(20, none), (193, some 22)], [(194, some 23), (195, some 24), (193, some 22)], [(193, some 22), (196, some 25)], [(197, some 26)]] [?b35_0, ?b35_1, ?b35_1, ?b35_3, ?b35_4, ?b35_5, ?b35_5, ?b35_7, ?b35_8, ?b35_9, ?b35_9, ?b35_11, ?b35_12, ?b35_13, ?b35_13, ?b35_15, ?b35_16, ?b35_17, ?b35_18, ?b35_19, ?b35_20, ?b35_21, ?b35_21, ?b35_23, ?b35_24, ?b35_25, ?b35_26, ?b35_26] Q0a hr ?t35 ?o35 ?_
 case o35 =>
  apply oc0; intro A W hx hf
  exact Q01 (a0 := a34) (r0 hf)
  apply oc0; intro A W hx hf
  exact Q1a (p2 s15 e_w28 hx (q0 ?b35_0 A W 171 hf)) (ec A (.int .i64 0))
  apply oc0; intro A W hx hf
  exact Q0i (q0 ?b35_1 A W 172 hf)
  refine ocg 173 ?_ (fun A W hx hf => ?_) ?_
  rfl
  exact gd_t (q1 ?b35_1 A W 173 hf) (fun hc => Q01 (a0 := a34) (r0 hf))
  refine ocg 173 ?_ (fun A W hx hf => ?_) ?_
  rfl
  exact gd_t (q1 ?b35_1 A W 173 hf) (fun hc => Q1a (p2 s17 e_w30 hx (G.get (q0 ?b35_3 A W 174 hf) hc)) (ec A (.int .i64 0)))
  apply oc0; intro A W hx hf
  exact Q1x (q0 ?b35_1 A W 173 hf) (q1 ?b35_4 A W 175 hf)
  apply oc0; intro A W hx hf
  exact Q0i (q0 ?b35_5 A W 176 hf)
  refine ocg 177 ?_ (fun A W hx hf => ?_) ?_
  rfl
  exact gd_t (q1 ?b35_5 A W 177 hf) (fun hc => Q01 (a0 := a34) (r0 hf))
  refine ocg 177 ?_ (fun A W hx hf => ?_) ?_
  rfl
  exact gd_t (q1 ?b35_5 A W 177 hf) (fun hc => Q1a (p2 s19 e_w32 hx (G.get (q0 ?b35_7 A W 178 hf) hc)) (ec A (.int .i64 0)))
  apply oc0; intro A W hx hf
  exact Q1x (q0 ?b35_5 A W 177 hf) (q1 ?b35_8 A W 179 hf)
  apply oc0; intro A W hx hf
  exact Q0i (q0 ?b35_9 A W 180 hf)
  refine ocg 181 ?_ (fun A W hx hf => ?_) ?_
  rfl
  exact gd_t (q1 ?b35_9 A W 181 hf) (fun hc => Q01 (a0 := a34) (r0 hf))
  refine ocg 181 ?_ (fun A W hx hf => ?_) ?_
  rfl
  exact gd_t (q1 ?b35_9 A W 181 hf) (fun hc => Q1a (p1 s21 hx (G.get (q0 ?b35_11 A W 182 hf) hc)) (ec A (.int .i64 0)))
  apply oc0; intro A W hx hf
  exact Q1x (q0 ?b35_9 A W 181 hf) (q1 ?b35_12 A W 183 hf)
  apply oc0; intro A W hx hf
  exact Q0i (q0 ?b35_13 A W 184 hf)
  refine ocg 185 ?_ (fun A W hx hf => ?_) ?_
  rfl
  exact gd_t (q1 ?b35_13 A W 185 hf) (fun hc => Q01 (a0 := a34) (r0 hf))
  refine ocg 185 ?_ (fun A W hx hf => ?_) ?_
  rfl
  exact gd_t (q1 ?b35_13 A W 185 hf) (fun hc => Q01 (a0 := a34) (r0 hf))
  refine ocg 185 ?_ (fun A W hx hf => ?_) ?_
  rfl
  exact gd_t (q1 ?b35_13 A W 185 hf) (fun hc => Q02 11 tu37 (k := 5) rfl Q0l rfl (o2 s11 e_w12 hx (r0 hf)) rfl)
  refine ocg 185 ?_ (fun A W hx hf => ?_) ?_
  rfl
  exact gd_t (q1 ?b35_13 A W 185 hf) (fun hc => Q09 tu3 rfl (G.get (q0 ?b35_17 A W 188 hf) hc) rfl)
  refine ocg 185 ?_ (fun A W hx hf => ?_) ?_
  rfl
  exact gd_t (q2 ?b35_13 A W 185 hf) (fun hc => Qai (endP l) tu22 Q0t (p2 s0 e_w hx (G.get (q0 ?b35_16 A W 187 hf) hc)) (Is.int (G.get (q1 ?b35_18 A W 189 hf) hc) (by rfl)) (by omega))
  refine ocg 185 ?_ (fun A W hx hf => ?_) ?_
  rfl
  exact gd_t (q2 ?b35_13 A W 185 hf) (fun hc => Q0w Qgv (Qgw (OwnBA.bs (p2 s18 e_w32 hx (G.get (q0 ?b35_15 A W 186 hf) hc))) (G.get (q1 ?b35_19 A W 190 hf) hc)))
  apply oc0; intro A W hx hf
  exact Q1x (q0 ?b35_13 A W 185 hf) (q1 ?b35_20 A W 191 hf)
  apply oc0; intro A W hx hf
  exact Q0i (q0 ?b35_21 A W 192 hf)
  refine ocg 193 ?_ (fun A W hx hf => ?_) ?_
  rfl
  exact gd_t (q1 ?b35_21 A W 193 hf) (fun hc => Q01 (a0 := a34) (r0 hf))
  refine ocg 193 ?_ (fun A W hx hf => ?_) ?_
  rfl
  exact gd_t (q1 ?b35_21 A W 193 hf) (fun hc => Q01 (a0 := a34) (r0 hf))
  refine ocg 193 ?_ (fun A W hx hf => ?_) ?_
  rfl
  exact gd_t (q2 ?b35_21 A W 193 hf) (fun hc => Q0w Qgv (Qgw (OwnBA.bs (p2 s16 e_w30 hx (G.get (q0 ?b35_23 A W 194 hf) hc))) (OwnBA.bs (p1 s20 hx (G.get (q1 ?b35_24 A W 195 hf) hc)))))
  apply oc0; intro A W hx hf
  exact Q1x (q0 ?b35_21 A W 193 hf) (q1 ?b35_25 A W 196 hf)
  apply oc0; intro A W hx hf
  exact Q03 (q0 ?b35_26 A W 197 hf)
  exact onn
 case t35 => repeat (first | exact Q5z | refine Q4q ?_)
 clear hr; intro a36 w36 x hr hd hs
 clear s0 s11 s15 s16 s17 s18 s19 s20 s21
 have s10 := fa ?b35_26 a36 w36 10 (hd 27 10 rfl)
 replace e_w := e_w.trans x
 clear e_w12
 clear e_w28
 clear e_w30
 clear e_w32; clear hd hs x
 refine et ?_
 refine wp_ret ?_
 refine Q10 Try.results7 hr e_w ?_
 first | with_reducible exact s10 | exact Is.bool s10 (by simp)

end Go.Proofs.Ytlmdboaghojgiaa
