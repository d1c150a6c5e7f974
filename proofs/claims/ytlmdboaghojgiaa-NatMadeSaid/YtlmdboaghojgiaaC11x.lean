import Derived.Test.YtlmdboaghojgiaaC11
import Derived.Test.YtlmdboaghojgiaaE11
import Derived.Test.YtlmdboaghojgiaaC07
namespace Go.Proofs.Ytlmdboaghojgiaa
open Go.RowKit
set_option linter.unusedVariables false
set_option linter.unusedSimpArgs false
set_option maxRecDepth 4000
def Q94 : List Tmp := [9, 75, 76]
def Q95 : List Tmp := [9, 80, 81, 82, 83]
set_option maxHeartbeats 1000000 in
theorem Qlu {x0 x1 x2 x3 : Value} {w : World} {L : LinkL} {T : TupL} {f : Int} {N : Nat} (h0 : (LinkV L) x0 w) (h1 : (Is (TupV T)) x1 w) (h2 : (Is (.int .i64 f)) x2 w) (h3 : (Is (.int .i64 (N : Int))) x3 w) (hL : Q2i L) (hT9 : Q3f T) (hn9 : N ≤ 1000000) :
    Calls Try.prog 17 #[x0, x1, x2, x3] w (Ret (Is (.int .i64 (whyL L T f N))) w) := by
 obtain ⟨v, eh0, hT, hvh0⟩ := h0
 replace h0 : Is (LnkA L v) x0 w := eh0
 obtain ⟨hs16, hd16⟩ := id hT9
 have hhl := Qc4 T
 refine enter Try.func17 rfl Try.ntmps17 (k := 4) rfl (by decide) (fun a0 hr hargs => ?_)
 have s0 := sarg h0 (hargs 0 (by decide))
 have s1 := sarg h1 (hargs 1 (by decide))
 have s2 := sarg h2 (hargs 2 (by decide))
 have s3 := sarg h3 (hargs 3 (by decide))
 clear hargs
 refine sq ?_
 refine Q06 (l := [_]) (rest := [_, _]) 86 [[(0, none)]] [?b1_0] hr ?t1 ?o1 ?_
 case o1 =>
  apply oc0; intro A W hx hf
  exact Q1y (lnkS L v) [6, 6, 1, 1, 1] (o1 s0 hx (r0 hf)) (by exact Q4l hL) hx.size
  exact onn
 case t1 => exact inferInstance
 clear hr; intro a2 w2 x hr hd hs
 revert s3; revert s2; revert s1; refine kp3 hs rfl ?_; intro s1 s2 s3
 clear s0
 have s4 := fa ?b1_0 a2 w2 4 (hd 0 4 rfl)
 obtain ⟨g2_4, q2_4⟩ := PxN.at s4; clear s4; have n2_4 := PxS.lt q2_4
 have s4 := q2_4; clear q2_4
 have e_w := x; clear hd hs x
 have l3_4 := PxS.lt s4
 refine Q11 hr (Q1y (tupS T) [1, 16, 1, 16, 1, 1, 1] (Q00 e_w s1) (by exact Q39 hT9) (Nat.le_refl _)) inferInstance ?_; clear hr; intro a3 w3 x hr hd hs
 revert s4; revert s3; revert s2; refine kp3 hs rfl ?_; intro s2 s3 s4
 clear s1
 have s5 := hd 5 rfl (by decide)
 obtain ⟨g3_5, q3_5⟩ := PxN.at s5; clear s5; have n3_5 := PxS.lt q3_5
 replace q3_5 := PxS.mono q3_5 e_w.size
 have s5 := q3_5; clear q3_5
 replace e_w := e_w.trans x
 have e_w2 := x; clear hd hs x
 refine Q11 hr (Q05) inferInstance ?_; clear hr; intro a4 w4 x hr hd hs
 revert s5; revert s4; revert s3; revert s2; refine kp4 hs rfl ?_; intro s2 s3 s4 s5
 replace e_w := e_w.trans x
 replace e_w2 := e_w2.trans x
 have e_w3 := x; clear hd hs x
 refine wpList_nil ?_
 refine es ?_
 refine sq ?_
 refine Q04 86 ([(4, none)] :: [(5, none)] :: [(10, some 0), (11, some 1)] :: [(12, some 2)] :: [(13, some 3)] :: [(14, some 4)] :: [(5, none), (15, some 5)] :: [(16, some 6), (15, some 5)] :: [(5, none), (15, some 5)] :: [(18, some 8), (15, some 5)] :: [(17, some 7), (19, some 9), (15, some 5)] :: [(20, some 10), (15, some 5)] :: [(15, some 5), (21, some 11)] :: [(22, some 12)] :: [(5, none), (23, some 13)] :: [(24, some 14), (23, some 13)] :: [(25, some 15), (23, some 13)] :: [(26, some 16), (23, some 13)] :: [(5, none), (27, some 17)] :: [(28, some 18), (27, some 17)] :: [(29, some 19), (27, some 17)] :: [(27, some 17), (30, some 20), (23, some 13)] :: [(23, some 13), (31, some 21)] :: [(32, some 22)] :: [(5, none), (33, some 23)] :: [(34, some 24), (33, some 23)] :: [(35, some 25), (33, some 23)] :: [(33, some 23), (36, some 26)] :: [(37, some 27)] :: [(5, none), (38, some 28)] :: [(39, some 29), (38, some 28)] :: [(40, some 30), (38, some 28)] :: [(38, some 28), (41, some 31)] :: [(42, some 32)] :: [(5, none), (43, some 33)] :: [(44, some 34), (43, some 33)] :: [(45, some 35), (43, some 33)] :: [(43, some 33), (46, some 36)] :: [(47, some 37)] :: [(5, none), (48, some 38)] :: [(49, some 39), (48, some 38)] :: [(50, some 40), (48, some 38)] :: [(48, some 38), (51, some 41)] :: [(52, some 42)] :: [(2, none), (53, some 43)] :: [(54, some 44), (53, some 43)] :: [(53, some 43), (55, some 45)] :: [(56, some 46)] :: [(2, none), (57, some 47)] :: [(58, some 48), (57, some 47)] :: [(57, some 47), (59, some 49)] :: [(60, some 50)] :: [(5, none), (61, some 51)] :: [(62, some 52), (61, some 51)] :: [(63, some 53), (61, some 51)] :: [(64, some 54), (61, some 51)] :: [(2, none), (65, some 55)] :: [(66, some 56), (65, some 55)] :: [(65, some 55), (67, some 57), (61, some 51)] :: [(61, some 51), (68, some 58)] :: []) (?b5_0 :: ?b5_1 :: ?b5_2 :: ?b5_3 :: ?b5_4 :: ?b5_4 :: ?b5_6 :: ?b5_7 :: ?b5_8 :: ?b5_9 :: ?b5_10 :: ?b5_11 :: ?b5_12 :: ?b5_12 :: ?b5_14 :: ?b5_15 :: ?b5_16 :: ?b5_16 :: ?b5_18 :: ?b5_19 :: ?b5_20 :: ?b5_21 :: ?b5_22 :: ?b5_22 :: ?b5_24 :: ?b5_25 :: ?b5_26 :: ?b5_27 :: ?b5_27 :: ?b5_29 :: ?b5_30 :: ?b5_31 :: ?b5_32 :: ?b5_32 :: ?b5_34 :: ?b5_35 :: ?b5_36 :: ?b5_37 :: ?b5_37 :: ?b5_39 :: ?b5_40 :: ?b5_41 :: ?b5_42 :: ?b5_42 :: ?b5_44 :: ?b5_45 :: ?b5_46 :: ?b5_46 :: ?b5_48 :: ?b5_49 :: ?b5_50 :: ?b5_50 :: ?b5_52 :: ?b5_53 :: ?b5_54 :: ?b5_54 :: ?b5_56 :: ?b5_57 :: ?b5_58 :: ?b5_59 :: []) Q08 hr ?t5 ?o5 ?_
 case o5 =>
  apply oc0; intro A W hx hf
  exact Q0b 5 tu46 rfl Q2v (o2 s4 e_w2 hx (r0 hf)) rfl
  apply oc0; intro A W hx hf
  exact Q0b 7 tu35 rfl Q37 (o2 s5 e_w3 hx (r0 hf)) rfl
  apply oc0; intro A W hx hf
  exact Q0p Qmm (Qbg (LinkV.of (show Is (LnkA L v) _ _ from (q0 ?b5_0 A W 10 hf)) (Q00 (e_w.trans hx) hT)) (show Is (TupV T) _ _ from (q1 ?b5_1 A W 11 hf)) (by exact hL) (by exact hT9))
  apply oc0; intro A W hx hf
  exact Q18 Qpm (Qkd (q0 ?b5_2 A W 12 hf) (by exact Q3v hL))
  apply oc0; intro A W hx hf
  exact Q43 (q0 ?b5_3 A W 13 hf)
  apply oc0; intro A W hx hf
  exact Q0h (q0 ?b5_4 A W 14 hf)
  refine ocg 15 ?_ (fun A W hx hf => ?_) ?_
  rfl
  exact gd_f (q1 ?b5_4 A W 15 hf) (fun hc => Q02 0 tu35 (k := 0) rfl Q0z rfl (o2 s5 e_w3 hx (r0 hf)) rfl)
  refine ocg 15 ?_ (fun A W hx hf => ?_) ?_
  rfl
  exact gd_f (q1 ?b5_4 A W 15 hf) (fun hc => Q0b 2 tu25 rfl Q0z (G.get (q0 ?b5_6 A W 16 hf) hc) rfl)
  refine ocg 15 ?_ (fun A W hx hf => ?_) ?_
  rfl
  exact gd_f (q1 ?b5_4 A W 15 hf) (fun hc => Q02 2 tu35 (k := 1) rfl Q0z rfl (o2 s5 e_w3 hx (r0 hf)) rfl)
  refine ocg 15 ?_ (fun A W hx hf => ?_) ?_
  rfl
  exact gd_f (q1 ?b5_4 A W 15 hf) (fun hc => Q0b 4 tu25 rfl Q0z (G.get (q0 ?b5_8 A W 18 hf) hc) rfl)
  refine ocg 15 ?_ (fun A W hx hf => ?_) ?_
  rfl
  exact gd_f (q2 ?b5_4 A W 15 hf) (fun hc => Q0p Qpn (Qfc (Is.conv (G.get (q0 ?b5_7 A W 17 hf) hc) (show _ = AdrV T.src from (Q1o T.src))) (Is.conv (G.get (q1 ?b5_9 A W 19 hf) hc) (show _ = AdrV T.dst from (Q1o T.dst))) (by exact hs16) (by exact hd16)))
  refine ocg 15 ?_ (fun A W hx hf => ?_) ?_
  rfl
  exact gd_f (q1 ?b5_4 A W 15 hf) (fun hc => Q43 (G.get (q0 ?b5_10 A W 20 hf) hc))
  apply oc0; intro A W hx hf
  exact Q3o (q0 ?b5_4 A W 15 hf) (q1 ?b5_11 A W 21 hf)
  apply oc0; intro A W hx hf
  exact Q0h (q0 ?b5_12 A W 22 hf)
  refine ocg 23 ?_ (fun A W hx hf => ?_) ?_
  rfl
  exact gd_f (q1 ?b5_12 A W 23 hf) (fun hc => Q02 4 tu35 (k := 2) rfl Q0m rfl (o2 s5 e_w3 hx (r0 hf)) rfl)
  refine ocg 23 ?_ (fun A W hx hf => ?_) ?_
  rfl
  exact gd_f (q1 ?b5_12 A W 23 hf) (fun hc => Q0a tu3 rfl (G.get (q0 ?b5_14 A W 24 hf) hc) rfl)
  refine ocg 23 ?_ (fun A W hx hf => ?_) ?_
  rfl
  exact gd_f (q1 ?b5_12 A W 23 hf) (fun hc => Q48 (G.get (q0 ?b5_15 A W 25 hf) hc) (ec A (.int .i64 6)))
  refine ocg 23 ?_ (fun A W hx hf => ?_) ?_
  rfl
  exact gd_f (q1 ?b5_12 A W 23 hf) (fun hc => Q0h (G.get (q0 ?b5_16 A W 26 hf) hc))
  refine ocg 27 ?_ (fun A W hx hf => ?_) ?_
  rfl
  exact Qe7 (q1 ?b5_16 A W 27 hf) (fun hc => Q02 4 tu35 (k := 2) rfl Q0m rfl (o2 s5 e_w3 hx (r0 hf)) rfl)
  refine ocg 27 ?_ (fun A W hx hf => ?_) ?_
  rfl
  exact Qe7 (q1 ?b5_16 A W 27 hf) (fun hc => Q0a tu3 rfl (G.get (q0 ?b5_18 A W 28 hf) hc) rfl)
  refine ocg 27 ?_ (fun A W hx hf => ?_) ?_
  rfl
  exact Qe7 (q1 ?b5_16 A W 27 hf) (fun hc => Q48 (G.get (q0 ?b5_19 A W 29 hf) hc) (ec A (.int .i64 17)))
  refine ocg 23 ?_ (fun A W hx hf => ?_) ?_
  rfl
  exact gd_f (q2 ?b5_12 A W 23 hf) (fun hc => Q2p (G.get (q0 ?b5_16 A W 27 hf) hc) (G.strip hc (q1 ?b5_20 A W 30 hf)))
  apply oc0; intro A W hx hf
  exact Q3o (q0 ?b5_12 A W 23 hf) (q1 ?b5_21 A W 31 hf)
  apply oc0; intro A W hx hf
  exact Q0h (q0 ?b5_22 A W 32 hf)
  refine ocg 33 ?_ (fun A W hx hf => ?_) ?_
  rfl
  exact gd_f (q1 ?b5_22 A W 33 hf) (fun hc => Q02 5 tu35 (k := 3) rfl Q0m rfl (o2 s5 e_w3 hx (r0 hf)) rfl)
  refine ocg 33 ?_ (fun A W hx hf => ?_) ?_
  rfl
  exact gd_f (q1 ?b5_22 A W 33 hf) (fun hc => Q0a tu3 rfl (G.get (q0 ?b5_24 A W 34 hf) hc) rfl)
  refine ocg 33 ?_ (fun A W hx hf => ?_) ?_
  rfl
  exact gd_f (q1 ?b5_22 A W 33 hf) (fun hc => Q1b (G.get (q0 ?b5_25 A W 35 hf) hc) (ec A (.int .i64 0)))
  apply oc0; intro A W hx hf
  exact Q3o (q0 ?b5_22 A W 33 hf) (q1 ?b5_26 A W 36 hf)
  apply oc0; intro A W hx hf
  exact Q0h (q0 ?b5_27 A W 37 hf)
  refine ocg 38 ?_ (fun A W hx hf => ?_) ?_
  rfl
  exact gd_f (q1 ?b5_27 A W 38 hf) (fun hc => Q02 5 tu35 (k := 3) rfl Q0m rfl (o2 s5 e_w3 hx (r0 hf)) rfl)
  refine ocg 38 ?_ (fun A W hx hf => ?_) ?_
  rfl
  exact gd_f (q1 ?b5_27 A W 38 hf) (fun hc => Q0a tu3 rfl (G.get (q0 ?b5_29 A W 39 hf) hc) rfl)
  refine ocg 38 ?_ (fun A W hx hf => ?_) ?_
  rfl
  exact gd_f (q1 ?b5_27 A W 38 hf) (fun hc => Q3m (G.get (q0 ?b5_30 A W 40 hf) hc) (ec A (.int .i64 65535)))
  apply oc0; intro A W hx hf
  exact Q3o (q0 ?b5_27 A W 38 hf) (q1 ?b5_31 A W 41 hf)
  apply oc0; intro A W hx hf
  exact Q0h (q0 ?b5_32 A W 42 hf)
  refine ocg 43 ?_ (fun A W hx hf => ?_) ?_
  rfl
  exact gd_f (q1 ?b5_32 A W 43 hf) (fun hc => Q02 6 tu35 (k := 4) rfl Q0m rfl (o2 s5 e_w3 hx (r0 hf)) rfl)
  refine ocg 43 ?_ (fun A W hx hf => ?_) ?_
  rfl
  exact gd_f (q1 ?b5_32 A W 43 hf) (fun hc => Q0a tu3 rfl (G.get (q0 ?b5_34 A W 44 hf) hc) rfl)
  refine ocg 43 ?_ (fun A W hx hf => ?_) ?_
  rfl
  exact gd_f (q1 ?b5_32 A W 43 hf) (fun hc => Q1b (G.get (q0 ?b5_35 A W 45 hf) hc) (ec A (.int .i64 0)))
  apply oc0; intro A W hx hf
  exact Q3o (q0 ?b5_32 A W 43 hf) (q1 ?b5_36 A W 46 hf)
  apply oc0; intro A W hx hf
  exact Q0h (q0 ?b5_37 A W 47 hf)
  refine ocg 48 ?_ (fun A W hx hf => ?_) ?_
  rfl
  exact gd_f (q1 ?b5_37 A W 48 hf) (fun hc => Q02 6 tu35 (k := 4) rfl Q0m rfl (o2 s5 e_w3 hx (r0 hf)) rfl)
  refine ocg 48 ?_ (fun A W hx hf => ?_) ?_
  rfl
  exact gd_f (q1 ?b5_37 A W 48 hf) (fun hc => Q0a tu3 rfl (G.get (q0 ?b5_39 A W 49 hf) hc) rfl)
  refine ocg 48 ?_ (fun A W hx hf => ?_) ?_
  rfl
  exact gd_f (q1 ?b5_37 A W 48 hf) (fun hc => Q3m (G.get (q0 ?b5_40 A W 50 hf) hc) (ec A (.int .i64 65535)))
  apply oc0; intro A W hx hf
  exact Q3o (q0 ?b5_37 A W 48 hf) (q1 ?b5_41 A W 51 hf)
  apply oc0; intro A W hx hf
  exact Q0h (q0 ?b5_42 A W 52 hf)
  refine ocg 53 ?_ (fun A W hx hf => ?_) ?_
  rfl
  exact gd_f (q1 ?b5_42 A W 53 hf) (fun hc => Q01 (a0 := a4) (r0 hf))
  refine ocg 53 ?_ (fun A W hx hf => ?_) ?_
  rfl
  exact gd_f (q1 ?b5_42 A W 53 hf) (fun hc => Q1b (p2 s2 e_w hx (G.get (q0 ?b5_44 A W 54 hf) hc)) (ec A (.int .i64 0)))
  apply oc0; intro A W hx hf
  exact Q3o (q0 ?b5_42 A W 53 hf) (q1 ?b5_45 A W 55 hf)
  apply oc0; intro A W hx hf
  exact Q0h (q0 ?b5_46 A W 56 hf)
  refine ocg 57 ?_ (fun A W hx hf => ?_) ?_
  rfl
  exact gd_f (q1 ?b5_46 A W 57 hf) (fun hc => Q01 (a0 := a4) (r0 hf))
  refine ocg 57 ?_ (fun A W hx hf => ?_) ?_
  rfl
  exact gd_f (q1 ?b5_46 A W 57 hf) (fun hc => Q3m (p2 s2 e_w hx (G.get (q0 ?b5_48 A W 58 hf) hc)) (ec A (.int .i64 63)))
  apply oc0; intro A W hx hf
  exact Q3o (q0 ?b5_46 A W 57 hf) (q1 ?b5_49 A W 59 hf)
  apply oc0; intro A W hx hf
  exact Q0h (q0 ?b5_50 A W 60 hf)
  refine ocg 61 ?_ (fun A W hx hf => ?_) ?_
  rfl
  exact gd_f (q1 ?b5_50 A W 61 hf) (fun hc => Q02 4 tu35 (k := 2) rfl Q0m rfl (o2 s5 e_w3 hx (r0 hf)) rfl)
  refine ocg 61 ?_ (fun A W hx hf => ?_) ?_
  rfl
  exact gd_f (q1 ?b5_50 A W 61 hf) (fun hc => Q0a tu3 rfl (G.get (q0 ?b5_52 A W 62 hf) hc) rfl)
  refine ocg 61 ?_ (fun A W hx hf => ?_) ?_
  rfl
  exact gd_f (q1 ?b5_50 A W 61 hf) (fun hc => Q1i (G.get (q0 ?b5_53 A W 63 hf) hc) (ec A (.int .i64 17)))
  refine ocg 61 ?_ (fun A W hx hf => ?_) ?_
  rfl
  exact gd_f (q1 ?b5_50 A W 61 hf) (fun hc => Q0h (G.get (q0 ?b5_54 A W 64 hf) hc))
  refine ocg 65 ?_ (fun A W hx hf => ?_) ?_
  rfl
  exact Qe7 (q1 ?b5_54 A W 65 hf) (fun hc => Q01 (a0 := a4) (r0 hf))
  refine ocg 65 ?_ (fun A W hx hf => ?_) ?_
  rfl
  exact Qe7 (q1 ?b5_54 A W 65 hf) (fun hc => Q48 (p2 s2 e_w hx (G.get (q0 ?b5_56 A W 66 hf) hc)) (ec A (.int .i64 0)))
  refine ocg 61 ?_ (fun A W hx hf => ?_) ?_
  rfl
  exact gd_f (q2 ?b5_50 A W 61 hf) (fun hc => Q2p (G.get (q0 ?b5_54 A W 65 hf) hc) (G.strip hc (q1 ?b5_57 A W 67 hf)))
  apply oc0; intro A W hx hf
  exact Q3o (q0 ?b5_50 A W 61 hf) (q1 ?b5_58 A W 68 hf)
  exact onn
 case t5 => repeat (first | exact Q9h | refine Q7e ?_)
 clear hr; intro a6 w6 x hr hd hs
 revert s5; revert s3; refine kp2 hs rfl ?_; intro s3 s5
 clear s2 s4
 have s69 := fa ?b5_59 a6 w6 69 (hd 59 69 rfl)
 replace e_w := e_w.trans x
 clear e_w2
 replace e_w3 := e_w3.trans x; clear hd hs x
 refine et ?_
 refine wp_cond_split (show _ = _ from s69) (fun hc9 => ?_) (fun hc9 => ?_)
 ·
  have hw := Qqt (n := N) (Qqw hc9)
  refine sq ?_
  refine Q04 86 [[]] [?b8_0] Q08 hr ?t8 ?o8 ?_
  case o8 =>
   apply oc0; intro A W hx hf
   exact Q05
   exact onn
  case t8 => exact inferInstance
  clear hr; intro a9 w9 x hr hd hs
  clear s3 s5 s69
  have s8 := fa ?b8_0 a9 w9 8 (hd 0 8 rfl)
  replace e_w := e_w.trans x
  clear e_w3; clear hd hs x
  refine et ?_
  refine wp_ret ?_
  refine Q0e ?_
  refine Q0r Try.results17 hr e_w ?_
  exact Is.int s8 (by rw [hw])
 obtain ⟨k1, k2⟩ := Qqx hc9
 refine wp_skip ?_
 refine es ?_
 refine Q04 86 [[(3, none)], [(70, some 0)], [(71, some 1)]] [?b10_0, ?b10_1, ?b10_1] Q08 hr ?t10 ?o10 ?_
 case o10 =>
  apply oc0; intro A W hx hf
  exact Q01 (a0 := a6) (r0 hf)
  apply oc0; intro A W hx hf
  exact Q0o (p2 s3 e_w hx (q0 ?b10_0 A W 70 hf)) (ec A (.int .i64 20)) (by omega)
  apply oc0; intro A W hx hf
  exact Q03 (q0 ?b10_1 A W 71 hf)
  exact onn
 case t10 => exact inferInstance
 clear hr; intro a11 w11 x hr hd hs
 revert s5; revert s3; refine kp2 hs rfl ?_; intro s3 s5
 clear s69
 have s9 := fa ?b10_1 a11 w11 9 (hd 2 9 rfl)
 replace e_w := e_w.trans x
 replace e_w3 := e_w3.trans x; clear hd hs x
 refine es ?_
 refine sq ?_
 refine Q04 86 [[(5, none)], [(72, some 0)], [(73, some 1)]] [?b12_0, ?b12_1, ?b12_2] Q08 hr ?t12 ?o12 ?_
 case o12 =>
  apply oc0; intro A W hx hf
  exact Q02 4 tu35 (k := 2) rfl Q0m rfl (o2 s5 e_w3 hx (r0 hf)) rfl
  apply oc0; intro A W hx hf
  exact Q0a tu3 rfl (q0 ?b12_0 A W 72 hf) rfl
  apply oc0; intro A W hx hf
  exact Q1i (q0 ?b12_1 A W 73 hf) (ec A (.int .i64 17))
  exact onn
 case t12 => exact inferInstance
 clear hr; intro a13 w13 x hr hd hs
 revert s9; revert s5; revert s3; refine kp3 hs rfl ?_; intro s3 s5 s9
 have s74 := fa ?b12_2 a13 w13 74 (hd 2 74 rfl)
 replace e_w := e_w.trans x
 replace e_w3 := e_w3.trans x
 have e_w11 := x; clear hd hs x
 refine et ?_
 refine Q33 (fun A W => Fr 86 A ∧ Same Q94 a13 A ∧ Ext w W ∧ (PxS g3_5 w.heap.size [1, 16, 1, 16, 1, 1, 1] (tupS T) 0) (A.eval (.tmp 5)) W ∧ (Is (.int .i64 ((N : Int) + (Q2w T : Int)))) (A.eval (.tmp 9)) W) ?cut14 ?_
 case cut14 =>
  have m14 : Same Q94 a13 a13 := Same.rfl
  refine wp_cond_split (show _ = _ from s74) (fun h17 => ?_) (fun h17 => ?_)
  ·
   have h17 : T.proto = 17 := by simpa using h17
   refine Q04 86 [[(3, none)], [(75, some 0)], [(76, some 1)]] [?b16_0, ?b16_1, ?b16_1] Q08 hr ?t16 ?o16 ?_
   case o16 =>
    apply oc0; intro A W hx hf
    exact Q01 (a0 := a13) (r0 hf)
    apply oc0; intro A W hx hf
    exact Q0o (p2 s3 e_w hx (q0 ?b16_0 A W 75 hf)) (ec A (.int .i64 8)) (by omega)
    apply oc0; intro A W hx hf
    exact Q03 (q0 ?b16_1 A W 76 hf)
    exact onn
   case t16 => exact inferInstance
   clear hr; intro a17 w17 x hr hd hs
   revert s5; refine kp1 hs rfl ?_; intro s5
   clear s3 s9 s74
   have s9 := fa ?b16_1 a17 w17 9 (hd 2 9 rfl)
   replace e_w := e_w.trans x
   replace e_w3 := e_w3.trans x
   clear e_w11
   replace m14 := m14.tr hs rfl; clear hd hs x
   refine et ?_
   refine ⟨hr, m14, e_w, ?_, ?_⟩
   · exact (Q00 e_w3 s5)
   · first | exact Is.int s9 (by unfold Q2w; rw [if_pos h17]; rfl) | exact Is.int s9 (by unfold Q2w; rw [if_neg h17]; rfl)
  have h17 : ¬ T.proto = 17 := by simpa using h17
  refine wp_skip ?_
  refine et ?_
  refine ⟨hr, m14, e_w, ?_, ?_⟩
  · exact (Q00 e_w3 s5)
  · first | exact Is.int (Q00 e_w11 s9) (by unfold Q2w; rw [if_pos h17]; rfl) | exact Is.int (Q00 e_w11 s9) (by unfold Q2w; rw [if_neg h17]; rfl)
 intro a14 w14 hI
 clear e_w
 clear e_w3
 clear e_w11
 clear hr; obtain ⟨hr, hs, e_w, u5, u9⟩ := hI
 clear s3 s5 s9 s74
 have s5 := u5; clear u5
 have s9 := u9; clear u9
 clear hs
 refine sq ?_
 refine sq ?_
 refine Q04 86 [[(5, none)], [(77, some 0)], [(78, some 1)]] [?b18_0, ?b18_1, ?b18_2] Q08 hr ?t18 ?o18 ?_
 case o18 =>
  apply oc0; intro A W hx hf
  exact Q02 0 tu35 (k := 0) rfl Q0z rfl (o1 s5 hx (r0 hf)) rfl
  apply oc0; intro A W hx hf
  exact Q02 0 tu25 (k := 0) rfl Q4r rfl (q0 ?b18_0 A W 77 hf) rfl
  apply oc0; intro A W hx hf
  exact Q0a tu4 rfl (q0 ?b18_1 A W 78 hf) rfl
  exact onn
 case t18 => exact inferInstance
 clear hr; intro a19 w19 x hr hd hs
 revert s9; refine kp1 hs rfl ?_; intro s9
 clear s5
 have s79 := fa ?b18_2 a19 w19 79 (hd 2 79 rfl)
 replace e_w := e_w.trans x
 have e_w14 := x; clear hd hs x
 refine et ?_
 refine Q33 (fun A W => Fr 86 A ∧ Same Q95 a19 A ∧ Ext w W ∧ (Is (.int .i64 ((N : Int) + (Q2w T : Int) + (if T.src.six then 40 else 20)))) (A.eval (.tmp 9)) W) ?cut20 ?_
 case cut20 =>
  have m20 : Same Q95 a19 a19 := Same.rfl
  refine wp_cond_split (show _ = _ from s79) (fun h6 => ?_) (fun h6 => ?_)
  ·
   skip
   refine Q04 86 [[(9, none)], [(80, some 0)], [(81, some 1)]] [?b22_0, ?b22_1, ?b22_1] Q08 hr ?t22 ?o22 ?_
   case o22 =>
    apply oc0; intro A W hx hf
    exact Q01 (a0 := a19) (r0 hf)
    apply oc0; intro A W hx hf
    exact Q0o (p2 s9 e_w14 hx (q0 ?b22_0 A W 80 hf)) (ec A (.int .i64 40)) (by omega)
    apply oc0; intro A W hx hf
    exact Q03 (q0 ?b22_1 A W 81 hf)
    exact onn
   case t22 => exact inferInstance
   clear hr; intro a23 w23 x hr hd hs
   clear s9 s79
   have s9 := fa ?b22_1 a23 w23 9 (hd 2 9 rfl)
   replace e_w := e_w.trans x
   clear e_w14
   replace m20 := m20.tr hs rfl; clear hd hs x
   refine et ?_
   refine ⟨hr, m20, e_w, ?_⟩
   · exact Is.int s9 (by rw [h6]; rfl)
  skip
  refine Q04 86 [[(9, none)], [(82, some 0)], [(83, some 1)]] [?b24_0, ?b24_1, ?b24_1] Q08 hr ?t24 ?o24 ?_
  case o24 =>
   apply oc0; intro A W hx hf
   exact Q01 (a0 := a19) (r0 hf)
   apply oc0; intro A W hx hf
   exact Q0o (p2 s9 e_w14 hx (q0 ?b24_0 A W 82 hf)) (ec A (.int .i64 20)) (by omega)
   apply oc0; intro A W hx hf
   exact Q03 (q0 ?b24_1 A W 83 hf)
   exact onn
  case t24 => exact inferInstance
  clear hr; intro a25 w25 x hr hd hs
  clear s9 s79
  have s9 := fa ?b24_1 a25 w25 9 (hd 2 9 rfl)
  replace e_w := e_w.trans x
  clear e_w14
  replace m20 := m20.tr hs rfl; clear hd hs x
  refine et ?_
  refine ⟨hr, m20, e_w, ?_⟩
  · exact Is.int s9 (by rw [h6]; rfl)
 intro a20 w20 hI
 clear e_w
 clear e_w14
 clear hr; obtain ⟨hr, hs, e_w, u9⟩ := hI
 clear s9 s79
 have s9 := u9; clear u9
 clear hs
 refine sq ?_
 refine sq ?_
 refine Q04 86 [[(9, none)], [(84, some 0)]] [?b26_0, ?b26_1] Q08 hr ?t26 ?o26 ?_
 case o26 =>
  apply oc0; intro A W hx hf
  exact Q01 (a0 := a20) (r0 hf)
  apply oc0; intro A W hx hf
  exact Q3m (p1 s9 hx (q0 ?b26_0 A W 84 hf)) (ec A (.int .i64 65535))
  exact onn
 case t26 => exact inferInstance
 clear hr; intro a27 w27 x hr hd hs
 clear s9
 have s85 := fa ?b26_1 a27 w27 85 (hd 1 85 rfl)
 replace e_w := e_w.trans x; clear hd hs x
 refine et ?_
 refine wp_cond_split (show _ = _ from s85) (fun hb => ?_) (fun hb => ?_)
 ·
  have hw := Qqu k1 k2 (by simpa using hb)
  refine sq ?_
  refine Q04 86 [[]] [?b29_0] Q08 hr ?t29 ?o29 ?_
  case o29 =>
   apply oc0; intro A W hx hf
   exact Q05
   exact onn
  case t29 => exact inferInstance
  clear hr; intro a30 w30 x hr hd hs
  clear s85
  have s8 := fa ?b29_0 a30 w30 8 (hd 0 8 rfl)
  replace e_w := e_w.trans x; clear hd hs x
  refine et ?_
  refine wp_ret ?_
  refine Q0e ?_
  refine Q0r Try.results17 hr e_w ?_
  exact Is.int s8 (by rw [hw])
 have hw := Qn3 k1 k2 (by simpa using hb)
 refine wp_skip ?_
 refine es ?_
 refine Q04 86 [[]] [?b31_0] Q08 hr ?t31 ?o31 ?_
 case o31 =>
  apply oc0; intro A W hx hf
  exact Q05
  exact onn
 case t31 => exact inferInstance
 clear hr; intro a32 w32 x hr hd hs
 clear s85
 have s8 := fa ?b31_0 a32 w32 8 (hd 0 8 rfl)
 replace e_w := e_w.trans x; clear hd hs x
 refine et ?_
 refine wp_ret ?_
 refine Q0r Try.results17 hr e_w ?_
 exact Is.int s8 (by rw [hw])

end Go.Proofs.Ytlmdboaghojgiaa
