import Derived.Test.YtlmdboaghojgiaaC12a
import Derived.Test.YtlmdboaghojgiaaC11q
import Derived.Test.YtlmdboaghojgiaaC06
import Derived.Test.YtlmdboaghojgiaaC10m
namespace Go.Proofs.Ytlmdboaghojgiaa
open Go.RowKit
set_option linter.unusedVariables false
set_option linter.unusedSimpArgs false
set_option maxRecDepth 4000
theorem Qog (l : List UInt8) (A : Adr) (dst : Bool) : 0 ≤ Q7q l A dst ∧ Q7q l A dst ≤ 65535 := Q6i (Q0w _ _) _ _ _
theorem Qoh (l : List UInt8) (A : Adr) (n : Int) (dst : Bool) : 0 ≤ Q64 l A n dst ∧ Q64 l A n dst ≤ 65535 := Q6i (Q6i (Q0w _ _) _ _ _) _ _ _
def Q82 : List Tmp := [79, 80, 81, 82, 83, 84, 85, 86, 87, 88, 89, 90, 91]
def Q83 : List Tmp := [18]
set_option maxHeartbeats 1000000 in
theorem Qdy {x0 x1 x2 x3 : Value} {w : World} {l : List UInt8} {Sa : Adr} {n : Int} {dst : Bool} {B : Nat} (h0 : (Bs l) x0 w) (h1 : (Is (AdrV Sa)) x1 w) (h2 : (Is (.int .i64 n)) x2 w) (h3 : (Is (.bool dst)) x3 w) (hA : Sa.b.length = 16) (hl9 : l.length ≤ 900000) (hB : B ≤ w.heap.size) :
    Calls Try.prog 21 #[x0, x1, x2, x3] w (Ret (Tup2 (OwnB B 5 (natR l Sa n dst).1) (Is (.int .i64 (natR l Sa n dst).2))) w) := by
 have hlen := Bs.len_le h0
 refine enter Try.func21 rfl Try.ntmps21 (k := 4) rfl (by decide) (fun a0 hr hargs => ?_)
 have s0 := sarg h0 (hargs 0 (by decide))
 have s1 := sarg h1 (hargs 1 (by decide))
 have s2 := sarg h2 (hargs 2 (by decide))
 have s3 := sarg h3 (hargs 3 (by decide))
 clear hargs
 refine sq ?_
 refine Q04 141 [[(1, none)], [], []] [?b1_0, ?b1_1, ?b1_2] Q08 hr ?t1 ?o1 ?_
 case o1 =>
  apply oc0; intro A W hx hf
  exact Q1y [[.bool Sa.six], Sa.b.map Q0t] [1, 16] (Is.conv (o1 s1 hx (r0 hf)) (Q1o Sa).symm) (by simp [*]) hx.size
  apply oc0; intro A W hx hf
  exact Q1l (OwnBA 0 w.heap.size 5 []) (fun _ => Q2o)
  apply oc0; intro A W hx hf
  exact Q05
  exact onn
 case t1 => exact inferInstance
 clear hr; intro a2 w2 x hr hd hs
 revert s3; revert s2; revert s0; refine kp3 hs rfl ?_; intro s0 s2 s3
 clear s1
 have s5 := fa ?b1_0 a2 w2 5 (hd 0 5 rfl)
 obtain ⟨g2_5, q2_5⟩ := PxN.at s5; clear s5; have n2_5 := PxS.lt q2_5
 have s5 := q2_5; clear q2_5
 have e_w := x; clear hd hs x
 refine es ?_
 refine Q06 (l := [_, _, _]) (rest := [_]) 141 [[(0, none)], [(19, some 0)], []] [?b3_0, ?b3_1, ?b3_2] hr ?t3 ?o3 ?_
 case o3 =>
  apply oc0; intro A W hx hf
  exact Q01 (a0 := a2) (r0 hf)
  apply oc0; intro A W hx hf
  exact Q18 Qps (Qly (p2 s0 e_w hx (q0 ?b3_0 A W 19 hf)))
  apply oc0; intro A W hx hf
  exact Q0y (pktF (give 0)) [1, 1, 16, 1, 16, 1, 1, 1, 1, 1, 1, 1] Qir (by rfl) (by rfl) hx.size
  exact onn
 case t3 => exact inferInstance
 clear hr; intro a4 w4 x hr hd hs
 have z_w_w2 := e_w.size
 have l4_5 := PxS.lt s5
 revert s5; revert s3; revert s2; revert s0; refine kp4 hs rfl ?_; intro s0 s2 s3 s5
 have s20 := fa ?b3_1 a4 w4 20 (hd 1 20 rfl)
 have s10 := fa ?b3_2 a4 w4 10 (hd 2 10 rfl)
 obtain ⟨g4_10, q4_10⟩ := PxN.at s10; clear s10; have n4_10 := PxS.lt q4_10
 replace q4_10 := PxS.mono q4_10 e_w.size
 have s10 := q4_10; clear q4_10
 replace e_w := e_w.trans x
 have e_w2 := x; clear hd hs x
 have z5 := PxS.lt s10
 have l5 := (show (g4_10 = 0 ∨ w.heap.size < g4_10) ∧ True from ⟨by omega, trivial⟩)
 have l5_5 := PxS.lt (Q00 e_w2 s5)
 refine Q19 (pktF (Q16 l)) hr Qg2 s10 (Is.conv s20 (show _ = Value.agg (pktF (Q16 l)).flatten.toArray from (Qit _).symm)) (by exact Qdf (Qh8 _)) (by exact Ql6) rfl ?_; clear hr; intro a5 w5 hc hu hr hs
 have hb : Below w.heap.size w4 w5 := hc.below e_w.size l5.1
 revert s10; revert s5; revert s3; revert s2; revert s0; refine kp5 hs rfl ?_; intro s0 s2 s3 s5 s10
 clear s20
 replace s5 := PxS.other (Q00 e_w2 s5) hc (by omega)
 replace s10 := hu _ _ _ s10
 try simp only [List.set_cons_zero, List.set_cons_succ, pktF, plcS] at s10
 replace e_w := e_w.below (Nat.le_refl _) hb
 clear e_w2
 clear hu hs hc hb
 refine wpList_nil ?_
 refine es ?_
 refine sq ?_
 refine Q04 141 [[(10, none)], [(21, some 0)], [(22, some 1)], [(23, some 2)], [(10, none), (24, some 3)], [(25, some 4), (24, some 3)], [(26, some 5), (24, some 3)], [(27, some 6), (24, some 3)], [(5, none), (24, some 3)], [(28, some 7), (29, some 8), (24, some 3)], [(30, some 9), (24, some 3)], [(24, some 3), (31, some 10)], [(32, some 11)], [(2, none), (33, some 12)], [(34, some 13), (33, some 12)], [(33, some 12), (35, some 14)], [(36, some 15)], [(2, none), (37, some 16)], [(38, some 17), (37, some 16)], [(37, some 16), (39, some 18)]] [?b6_0, ?b6_1, ?b6_2, ?b6_2, ?b6_4, ?b6_5, ?b6_6, ?b6_7, ?b6_8, ?b6_9, ?b6_10, ?b6_11, ?b6_11, ?b6_13, ?b6_14, ?b6_15, ?b6_15, ?b6_17, ?b6_18, ?b6_19] Q08 hr ?t6 ?o6 ?_
 case o6 =>
  apply oc0; intro A W hx hf
  exact Q02 0 tu37 (k := 0) rfl Q0m rfl (o1 s10 hx (r0 hf)) rfl
  apply oc0; intro A W hx hf
  exact Q0a tu3 rfl (q0 ?b6_0 A W 21 hf) rfl
  apply oc0; intro A W hx hf
  exact Q48 (q0 ?b6_1 A W 22 hf) (ec A (.int .i64 0))
  apply oc0; intro A W hx hf
  exact Q0h (q0 ?b6_2 A W 23 hf)
  refine ocg 24 ?_ (fun A W hx hf => ?_) ?_
  rfl
  exact gd_f (q1 ?b6_2 A W 24 hf) (fun hc => Q02 1 tu37 (k := 1) rfl Q37 rfl (o1 s10 hx (r0 hf)) rfl)
  refine ocg 24 ?_ (fun A W hx hf => ?_) ?_
  rfl
  exact gd_f (q1 ?b6_2 A W 24 hf) (fun hc => Q02 1 tu35 (k := 0) rfl Q0z rfl (G.get (q0 ?b6_4 A W 25 hf) hc) rfl)
  refine ocg 24 ?_ (fun A W hx hf => ?_) ?_
  rfl
  exact gd_f (q1 ?b6_2 A W 24 hf) (fun hc => Q02 1 tu25 (k := 0) rfl Q4r rfl (G.get (q0 ?b6_5 A W 26 hf) hc) rfl)
  refine ocg 24 ?_ (fun A W hx hf => ?_) ?_
  rfl
  exact gd_f (q1 ?b6_2 A W 24 hf) (fun hc => Q0a tu4 rfl (G.get (q0 ?b6_6 A W 27 hf) hc) rfl)
  refine ocg 24 ?_ (fun A W hx hf => ?_) ?_
  rfl
  exact gd_f (q1 ?b6_2 A W 24 hf) (fun hc => Q0b 2 tu25 rfl Q0z (o1 s5 hx (r0 hf)) rfl)
  refine ocg 24 ?_ (fun A W hx hf => ?_) ?_
  rfl
  exact gd_f (q2 ?b6_2 A W 24 hf) (fun hc => Q0p Qpt (c_of (G.get (q0 ?b6_7 A W 28 hf) hc) (Is.conv (G.get (q1 ?b6_8 A W 29 hf) hc) (Q1o Sa)) (by exact hA)))
  refine ocg 24 ?_ (fun A W hx hf => ?_) ?_
  rfl
  exact gd_f (q1 ?b6_2 A W 24 hf) (fun hc => Q43 (G.get (q0 ?b6_9 A W 30 hf) hc))
  apply oc0; intro A W hx hf
  exact Q3o (q0 ?b6_2 A W 24 hf) (q1 ?b6_10 A W 31 hf)
  apply oc0; intro A W hx hf
  exact Q0h (q0 ?b6_11 A W 32 hf)
  refine ocg 33 ?_ (fun A W hx hf => ?_) ?_
  rfl
  exact gd_f (q1 ?b6_11 A W 33 hf) (fun hc => Q01 (a0 := a5) (r0 hf))
  refine ocg 33 ?_ (fun A W hx hf => ?_) ?_
  rfl
  exact gd_f (q1 ?b6_11 A W 33 hf) (fun hc => Q1b (p2 s2 e_w hx (G.get (q0 ?b6_13 A W 34 hf) hc)) (ec A (.int .i64 0)))
  apply oc0; intro A W hx hf
  exact Q3o (q0 ?b6_11 A W 33 hf) (q1 ?b6_14 A W 35 hf)
  apply oc0; intro A W hx hf
  exact Q0h (q0 ?b6_15 A W 36 hf)
  refine ocg 37 ?_ (fun A W hx hf => ?_) ?_
  rfl
  exact gd_f (q1 ?b6_15 A W 37 hf) (fun hc => Q01 (a0 := a5) (r0 hf))
  refine ocg 37 ?_ (fun A W hx hf => ?_) ?_
  rfl
  exact gd_f (q1 ?b6_15 A W 37 hf) (fun hc => Q3m (p2 s2 e_w hx (G.get (q0 ?b6_17 A W 38 hf) hc)) (ec A (.int .i64 65535)))
  apply oc0; intro A W hx hf
  exact Q3o (q0 ?b6_15 A W 37 hf) (q1 ?b6_18 A W 39 hf)
  exact onn
 case t6 => exact inferInstance
 clear hr; intro a7 w7 x hr hd hs
 revert s10; revert s5; revert s3; revert s2; revert s0; refine kp5 hs rfl ?_; intro s0 s2 s3 s5 s10
 have s40 := fa ?b6_19 a7 w7 40 (hd 19 40 rfl)
 replace e_w := e_w.trans x
 have e_w5 := x; clear hd hs x
 refine et ?_
 refine wp_cond_split (show _ = _ from s40) (fun hc9 => ?_) (fun hc9 => ?_)
 ·
  have hno := (Qem (dst := dst) (Qqn hc9)).1
  refine sq ?_
  refine Q04 141 [[], []] [?b9_0, ?b9_1] Q08 hr ?t9 ?o9 ?_
  case o9 =>
   apply oc0; intro A W hx hf
   exact Q1l (OwnBA 0 w.heap.size 5 []) (fun _ => Q2o)
   apply oc0; intro A W hx hf
   exact Q05
   exact onn
  case t9 => exact inferInstance
  clear hr; intro a10 w10 x hr hd hs
  clear s0 s2 s3 s5 s10 s40
  have s8 := fa ?b9_0 a10 w10 8 (hd 0 8 rfl)
  have s9 := fa ?b9_1 a10 w10 9 (hd 1 9 rfl)
  replace e_w := e_w.trans x
  clear e_w5; clear hd hs x
  refine et ?_
  refine wp_ret ?_
  refine Q0e ?_
  refine Q7g Try.results21 hr e_w ?_
  first | (rw [hno]; exact ⟨_, _, rfl, OwnB.mono s8.own hB, s9⟩) | (rw [hyes.1]; exact ⟨_, _, rfl, OwnB.mono s8.own hB, s9⟩)
 have hok := Qqo hc9
 have P := Qn1 hok
 have b := Qba P.fine
 have hyes := (Qbz (dst := dst) hok)
 obtain ⟨np1, np2, np3, np4, np5, np6, np7, np8, np9, np10⟩ := Q1c (dst := dst) b
 have hbl := b.len
 have h14 := b.a14
 have hfl := Q3h (l := l) hA
 have hsz := Qnu (Q1k l)
 have hal := Q7s (n := n) (dst := dst) b hA
 have hbl2 := Q7t (n := n) (dst := dst) b hA
 have hpp : Q2f (pkN l).1.proto = (atN (pkN l).1.proto : Int) := (Q6d P.fine.po).2.1
 have hn9 := P.port
 have hw1 := Q0w l (ip12 l)
 have hw2 := Q0w l (ck12 l)
 have hip9 : ip12 l = pkA l + 10 := rfl
 have hck9 : ck12 l = Q1u l + atN (pkN l).1.proto := rfl
 have hol : (Q54 l dst).length ≤ 1000000 := by unfold Q54 subl; simp; omega
 have hwp : 0 ≤ Q3g (Q07 l (ck12 l)) (Q54 l dst) (Q1f l Sa) ∧ Q3g (Q07 l (ck12 l)) (Q54 l dst) (Q1f l Sa) ≤ 65535 := Q6i hw2 _ _ _
 replace s10 := PxS.cast s10 (show _ = pktF (natK l) from by rw [P.eq, Qql P.fine]; first | done | rfl)
 refine wp_skip ?_
 refine es ?_
 refine Q04 141 [[(0, none)], [(10, none)], [(42, some 1)], [(41, some 0), (43, some 2)], [(44, some 3)], [(45, some 4)]] [?b11_0, ?b11_1, ?b11_2, ?b11_3, ?b11_4, ?b11_4] Q08 hr ?t11 ?o11 ?_
 case o11 =>
  apply oc0; intro A W hx hf
  exact Q01 (a0 := a7) (r0 hf)
  apply oc0; intro A W hx hf
  exact Q02 11 tu37 (k := 5) rfl Q0m rfl (o2 s10 e_w5 hx (r0 hf)) rfl
  apply oc0; intro A W hx hf
  exact Q0a tu3 rfl (q0 ?b11_1 A W 42 hf) rfl
  apply oc0; intro A W hx hf
  exact Q4x (endP l) tu22 Q0s (sarg s0 (show _ = _ from (q0 ?b11_0 A W 41 hf))) (Is.int (q1 ?b11_2 A W 43 hf) (by rfl)) (by exact hbl)
  apply oc0; intro A W hx hf
  exact Q18 Qpu (Qlz (AtW.now (q0 ?b11_3 A W 44 hf) (e_w.trans hx)) (by simp; omega) hx.size)
  apply oc0; intro A W hx hf
  exact Q03 (q0 ?b11_4 A W 45 hf)
  exact onn
 case t11 => exact inferInstance
 clear hr; intro a12 w12 x hr hd hs
 have z_w_w7 := e_w.size
 have z_w5_w7 := e_w5.size
 have l12_5 := PxS.lt (Q00 e_w5 s5)
 have l12_10 := PxS.lt (Q00 e_w5 s10)
 revert s10; revert s5; revert s3; revert s2; revert s0; refine kp5 hs rfl ?_; intro s0 s2 s3 s5 s10
 clear s40
 have s11 := fa ?b11_4 a12 w12 11 (hd 5 11 rfl)
 obtain ⟨g12_11, q12_11⟩ := OwnB.at s11; clear s11; have n12_11 := OwnBA.lt q12_11
 replace q12_11 := OwnBA.mono q12_11 e_w.size
 have s11 := q12_11; clear q12_11
 replace e_w := e_w.trans x
 replace e_w5 := e_w5.trans x; clear hd hs x
 refine es ?_
 refine Q06 (l := [_, _, _, _]) (rest := [_]) 141 [[(10, none)], [(3, none)], [(46, some 0), (47, some 1)], []] [?b13_0, ?b13_1, ?b13_2, ?b13_3] hr ?t13 ?o13 ?_
 case o13 =>
  apply oc0; intro A W hx hf
  exact Q0b 12 tu37 rfl Qg2 (o2 s10 e_w5 hx (r0 hf)) rfl
  apply oc0; intro A W hx hf
  exact Q01 (a0 := a12) (r0 hf)
  apply oc0; intro A W hx hf
  exact Q0p Qpv (Qrc (Is.conv (q0 ?b13_0 A W 46 hf) (show _ = PktV (natK l) from Qit (natK l))) (p2 s3 e_w hx (q1 ?b13_1 A W 47 hf)) (by exact Qns l) (by show ((0 : Int) ≤ (pkA l : Int) ∧ (pkA l : Int) ≤ 1000000) ∧ (0 : Int) ≤ (Q1u l : Int) ∧ (Q1u l : Int) ≤ 1000000; omega))
  apply oc0; intro A W hx hf
  exact Q0y (plcS plc0) [1, 1, 1] Qej (by rfl) (by rfl) hx.size
  exact onn
 case t13 => exact inferInstance
 clear hr; intro a14 w14 x hr hd hs
 have z_w_w12 := e_w.size
 have z_w5_w12 := e_w5.size
 have l14_5 := PxS.lt (Q00 e_w5 s5)
 have l14_10 := PxS.lt (Q00 e_w5 s10)
 have l14_11 := OwnBA.lt s11
 revert s11; revert s10; revert s5; revert s2; revert s0; refine kp5 hs rfl ?_; intro s0 s2 s5 s10 s11
 clear s3
 have s48 := fa ?b13_2 a14 w14 48 (hd 2 48 rfl)
 have s12 := fa ?b13_3 a14 w14 12 (hd 3 12 rfl)
 obtain ⟨g14_12, q14_12⟩ := PxN.at s12; clear s12; have n14_12 := PxS.lt q14_12
 replace q14_12 := PxS.mono q14_12 e_w.size
 have s12 := q14_12; clear q14_12
 replace e_w := e_w.trans x
 replace e_w5 := e_w5.trans x
 have e_w12 := x; clear hd hs x
 have z15 := PxS.lt s12
 have l15 := (show (g14_12 = 0 ∨ w.heap.size < g14_12) ∧ True from ⟨by omega, trivial⟩)
 have l15_5 := PxS.lt (Q00 e_w5 s5)
 have l15_10 := PxS.lt (Q00 e_w5 s10)
 have l15_11 := OwnBA.lt (Q00 e_w12 s11)
 refine Q19 (plcS (Qby (natK l) dst)) hr Qb9 s12 (Is.conv s48 (show _ = Value.agg (plcS (Qby (natK l) dst)).flatten.toArray from rfl)) (by rfl) (by exact Qbx) rfl ?_; clear hr; intro a15 w15 hc hu hr hs
 have hb : Below w.heap.size w14 w15 := hc.below e_w.size l15.1
 revert s12; revert s11; revert s10; revert s5; revert s2; revert s0; refine kp6 hs rfl ?_; intro s0 s2 s5 s10 s11 s12
 clear s48
 replace s5 := PxS.other (Q00 e_w5 s5) hc (by omega)
 replace s10 := PxS.other (Q00 e_w5 s10) hc (by omega)
 replace s11 := OwnBA.other (Q00 e_w12 s11) hc (by omega)
 replace s12 := hu _ _ _ s12
 try simp only [List.set_cons_zero, List.set_cons_succ, pktF, plcS] at s12
 replace e_w := e_w.below (Nat.le_refl _) hb
 clear e_w5
 clear e_w12
 clear hu hs hc hb
 refine wpList_nil ?_
 replace s12 := PxS.cast s12 (show _ = plcS ⟨(at12 l dst : Int), (sz12 (Q1k l) : Int), (pl12 l dst : Int)⟩ from by rw [Qrx]; first | done | rfl)
 refine es ?_
 refine Q04 141 [[(0, none)], [(12, none)], [(50, some 1)], [(12, none)], [(52, some 3)], [(12, none)], [(54, some 5)], [(53, some 4), (55, some 6)], [(49, some 0), (51, some 2), (56, some 7)], [(5, none)], [(12, none)], [(59, some 10)], [(58, some 9), (60, some 11)], [(57, some 8)], [(61, some 12)]] [?b16_0, ?b16_1, ?b16_2, ?b16_3, ?b16_4, ?b16_5, ?b16_6, ?b16_7, ?b16_8, ?b16_9, ?b16_10, ?b16_11, ?b16_12, ?b16_8, ?b16_12] Q08 hr ?t16 ?o16 ?_
 case o16 =>
  apply oc0; intro A W hx hf
  exact Q01 (a0 := a15) (r0 hf)
  apply oc0; intro A W hx hf
  exact Q02 0 tu81 (k := 0) rfl Q0m rfl (o1 s12 hx (r0 hf)) rfl
  apply oc0; intro A W hx hf
  exact Q0a tu3 rfl (q0 ?b16_1 A W 50 hf) rfl
  apply oc0; intro A W hx hf
  exact Q02 0 tu81 (k := 0) rfl Q0m rfl (o1 s12 hx (r0 hf)) rfl
  apply oc0; intro A W hx hf
  exact Q0a tu3 rfl (q0 ?b16_3 A W 52 hf) rfl
  apply oc0; intro A W hx hf
  exact Q02 1 tu81 (k := 1) rfl Q0m rfl (o1 s12 hx (r0 hf)) rfl
  apply oc0; intro A W hx hf
  exact Q0a tu3 rfl (q0 ?b16_5 A W 54 hf) rfl
  apply oc0; intro A W hx hf
  exact Q0o (q0 ?b16_4 A W 53 hf) (q1 ?b16_6 A W 55 hf) (by show (-9223372036854775808 : Int) ≤ (at12 l dst : Int) + (sz12 (Q1k l) : Int) ∧ (at12 l dst : Int) + (sz12 (Q1k l) : Int) ≤ 9223372036854775807; omega)
  apply oc0; intro A W hx hf
  exact Q69 (W := w) (at12 l dst) (at12 l dst + sz12 (Q1k l)) tu22 Q0s (sarg s0 (show _ = _ from (q0 ?b16_0 A W 49 hf))) (Is.int (q1 ?b16_2 A W 51 hf) (by rfl)) (Is.int (q2 ?b16_7 A W 56 hf) (by show (at12 l dst : Int) + (sz12 (Q1k l) : Int) = _; omega)) (by omega) (by omega)
  apply oc0; intro A W hx hf
  exact Q02 1 tu25 (k := 1) rfl Q61 rfl (o1 s5 hx (r0 hf)) rfl
  apply oc0; intro A W hx hf
  exact Q02 1 tu81 (k := 1) rfl Q0m rfl (o1 s12 hx (r0 hf)) rfl
  apply oc0; intro A W hx hf
  exact Q0a tu3 rfl (q0 ?b16_10 A W 59 hf) rfl
  apply oc0; intro A W hx hf
  exact Qb8 (sz12 (Q1k l)) tu23 Q0s (q0 ?b16_9 A W 58 hf) rfl (Is.int (q1 ?b16_11 A W 60 hf) (by rfl)) (by omega)
  apply oc0; intro A W hx hf
  exact Q03 (q0 ?b16_8 A W 57 hf)
  apply oc0; intro A W hx hf
  exact Q03 (q0 ?b16_12 A W 61 hf)
  exact onn
 case t16 => exact inferInstance
 clear hr; intro a17 w17 x hr hd hs
 revert s12; revert s11; revert s10; revert s5; revert s2; revert s0; refine kp6 hs rfl ?_; intro s0 s2 s5 s10 s11 s12
 have s13 := AtW.base (fa ?b16_8 a17 w17 13 (hd 13 13 rfl))
 have s14 := fa ?b16_12 a17 w17 14 (hd 14 14 rfl)
 replace e_w := e_w.trans x
 have e_w15 := x; clear hd hs x
 refine es ?_
 refine Q06 (l := [_, _, _, _, _]) (rest := [_]) 141 [[(11, none)], [(12, none)], [(63, some 1)], [(62, some 0), (64, some 2)], [(14, none)]] [?b18_0, ?b18_1, ?b18_2, ?b18_3, ?b18_4] hr ?t18 ?o18 ?_
 case o18 =>
  apply oc0; intro A W hx hf
  exact Q01 (a0 := a17) (r0 hf)
  apply oc0; intro A W hx hf
  exact Q02 0 tu81 (k := 0) rfl Q0m rfl (o2 s12 e_w15 hx (r0 hf)) rfl
  apply oc0; intro A W hx hf
  exact Q0a tu3 rfl (q0 ?b18_1 A W 63 hf) rfl
  apply oc0; intro A W hx hf
  exact Qeh (at12 l dst) tu22 Q0s (p2 s11 e_w15 hx (q0 ?b18_0 A W 62 hf)) (Is.int (q1 ?b18_2 A W 64 hf) (by rfl)) (by simp; omega)
  apply oc0; intro A W hx hf
  exact Q01 (a0 := a17) (r0 hf)
  exact onn
 case t18 => exact inferInstance
 clear hr; intro a19 w19 x hr hd hs
 have u66 := mv s14 (fa ?b18_4 a19 w19 66 (hd 4 66 rfl))
 revert s12; revert s11; revert s10; revert s5; revert s2; revert s0; refine kp6 hs rfl ?_; intro s0 s2 s5 s10 s11 s12
 revert s14; revert s13; refine kp2 hs rfl ?_; intro s13 s14
 have s66 := u66; clear u66
 have s65 := fa ?b18_3 a19 w19 65 (hd 3 65 rfl)
 replace e_w := e_w.trans x
 replace e_w15 := e_w15.trans x
 have e_w17 := x; clear hd hs x
 have z20 := SubA.lt s65
 have l20 := (show (g12_11 = 0 ∨ w.heap.size < g12_11) ∧ True from ⟨by omega, trivial⟩)
 have l20_5 := PxS.lt (Q00 e_w15 s5)
 have l20_10 := PxS.lt (Q00 e_w15 s10)
 have l20_12 := PxS.lt (Q00 e_w15 s12)
 have l20_14 := SxS.lt (Q00 e_w17 s14)
 refine Qbt hr tu22 Q0s s65 (SxS.hi (Q00 e_w17 s66) rfl (by decide)) ?_; clear hr; intro a20 w20 hc hu hr hs
 have hb : Below w.heap.size w19 w20 := hc.below e_w.size l20.1
 revert s12; revert s11; revert s10; revert s5; revert s2; revert s0; refine kp6 hs rfl ?_; intro s0 s2 s5 s10 s11 s12
 revert s14; revert s13; refine kp2 hs rfl ?_; intro s13 s14
 clear s66 s65
 replace s5 := PxS.other (Q00 e_w15 s5) hc (by omega)
 replace s10 := PxS.other (Q00 e_w15 s10) hc (by omega)
 replace s11 := hu _ _ _ (Q00 e_w15 s11)
 replace s12 := PxS.other (Q00 e_w15 s12) hc (by omega)
 replace s14 := SxS.other (Q00 e_w17 s14) hc (by omega)
 replace e_w := e_w.below (Nat.le_refl _) hb
 clear e_w15
 clear e_w17
 clear hu hs hc hb
 refine wpList_nil ?_
 replace s11 := OwnBA.cast s11 (show _ = Q27 (l.take (endP l)) (at12 l dst) (Q1f l Sa) from Q9s (a := Q1f l Sa) (by rw [hfl]; simp; omega))
 have hl11 : (Q27 (l.take (endP l)) (at12 l dst) (Q1f l Sa)).length = endP l := by rw [Q20 (by rw [hfl]; simp; omega)]; simp; omega
 refine es ?_
 refine Q1s Q08 (fun w21 x => ?_)
 show wpAny _ _ _ _ 8 _ _ _
 replace e_w := e_w.trans x
 have e_w20 := x
 clear x
 refine Q60 (l := [_, _, _, _, _, _, _, _]) 141 _ [false, false, false, false, false, false, false, true] [7] [[(11, none)], [(12, none)], [(69, some 1)], [(68, some 0), (70, some 2)], [(2, none)], [(72, some 4)], [(73, some 5)], []] [?b22_0, ?b22_1, ?b22_2, ?b22_3, ?b22_4, ?b22_5, ?b22_6, VP.top] (by kernel_rfl) rfl (by kernel_rfl) hr ?t22 ?o22 ?_
 case o22 =>
  apply lc0; intro A W hx hf
  exact Q01 (a0 := a20) (r0 hf)
  apply lc0; intro A W hx hf
  exact Q02 2 tu81 (k := 2) rfl Q0m rfl (o2 s12 e_w20 hx (r0 hf)) rfl
  apply lc0; intro A W hx hf
  exact Q0a tu3 rfl (q0 ?b22_1 A W 69 hf) rfl
  apply lc0; intro A W hx hf
  exact Qeh (pl12 l dst) tu22 Q0s (p2 s11 e_w20 hx (q0 ?b22_0 A W 68 hf)) (Is.int (q1 ?b22_2 A W 70 hf) (by rfl)) (by rw [hl11]; omega)
  apply lc0; intro A W hx hf
  exact Q01 (a0 := a20) (r0 hf)
  apply lc0; intro A W hx hf
  exact Q2d tu3 tu84 (by exact IntWalk.u64_in _ (by omega)) (p2 s2 e_w hx (q0 ?b22_4 A W 72 hf))
  apply lc0; intro A W hx hf
  exact Q2y Qmn (Qrd (q0 ?b22_5 A W 73 hf) (show Is (.int .i64 2) (A.eval (.const (.int .i64 2))) _ from rfl) (show Is (.bool true) (A.eval (.const (.bool true))) _ from rfl) (by omega) hx.size)
  refine lcs ?_
  exact lcn
 case t22 => exact inferInstance
 clear hr; intro a23 w23 x hr hd hs
 have z_w_w21 := e_w.size
 have z_w20_w21 := e_w20.size
 have l23_5 := PxS.lt (Q00 e_w20 s5)
 have l23_10 := PxS.lt (Q00 e_w20 s10)
 have l23_12 := PxS.lt (Q00 e_w20 s12)
 have l23_14 := SxS.lt (Q00 e_w20 s14)
 have l23_11 := OwnBA.lt (Q00 e_w20 s11)
 have u68 := mv s11 (fa ?b22_0 a23 w23 68 (hd 0 68 rfl rfl))
 have u72 := mv s2 (fa ?b22_4 a23 w23 72 (hd 4 72 rfl rfl))
 revert s12; revert s10; revert s5; revert s13; revert s2; revert s0; refine kp6 hs rfl ?_; intro s0 s2 s13 s5 s10 s12
 revert s11; revert s14; refine kp2 hs rfl ?_; intro s14 s11
 have s68 := u68; clear u68
 have s72 := u72; clear u72
 have s69 := fa ?b22_1 a23 w23 69 (hd 1 69 rfl rfl)
 have s70 := fa ?b22_2 a23 w23 70 (hd 2 70 rfl rfl)
 have s71 := fa ?b22_3 a23 w23 71 (hd 3 71 rfl rfl)
 have s73 := fa ?b22_5 a23 w23 73 (hd 5 73 rfl rfl)
 have s74 := fa ?b22_6 a23 w23 74 (hd 6 74 rfl rfl)
 obtain ⟨g23_74, q23_74⟩ := OwnB.at s74; clear s74; have n23_74 := OwnBA.lt q23_74
 replace q23_74 := OwnBA.mono q23_74 e_w.size
 have s74 := q23_74; clear q23_74
 replace e_w := e_w.trans x
 replace e_w20 := e_w20.trans x; clear hd hs x
 show wpList _ _ _ [_] _ _
 have z24 := SubA.lt s71
 have l24 := (show (g12_11 = 0 ∨ w.heap.size < g12_11) ∧ True from ⟨by omega, trivial⟩)
 have l24_5 := PxS.lt (Q00 e_w20 s5)
 have l24_10 := PxS.lt (Q00 e_w20 s10)
 have l24_12 := PxS.lt (Q00 e_w20 s12)
 have l24_14 := SxS.lt (Q00 e_w20 s14)
 refine Qbt hr tu22 Q0s s71 (OwnBA.bs s74) ?_; clear hr; intro a24 w24 hc hu hr hs
 have hb : Below w.heap.size w23 w24 := hc.below e_w.size l24.1
 revert s14; revert s12; revert s10; revert s5; revert s13; revert s0; refine kp6 hs rfl ?_; intro s0 s13 s5 s10 s12 s14
 revert s11; refine kp1 hs rfl ?_; intro s11
 clear s2 s68 s72 s69 s70 s71 s73 s74
 replace s5 := PxS.other (Q00 e_w20 s5) hc (by omega)
 replace s10 := PxS.other (Q00 e_w20 s10) hc (by omega)
 replace s12 := PxS.other (Q00 e_w20 s12) hc (by omega)
 replace s14 := SxS.other (Q00 e_w20 s14) hc (by omega)
 replace s11 := hu _ _ _ (Q00 e_w20 s11)
 replace e_w := e_w.below (Nat.le_refl _) hb
 clear e_w20
 clear hu hs hc hb
 refine wpList_nil ?_
 replace s11 := OwnBA.cast s11 (show _ = natA l Sa n dst from Q9s (a := put2 n) (by rw [hl11, Q0d]; omega))
 refine es ?_
 refine sq ?_
 refine Q04 141 [[(5, none)], [(76, some 0)], [(77, some 1)]] [?b25_0, ?b25_1, ?b25_2] Q08 hr ?t25 ?o25 ?_
 case o25 =>
  apply oc0; intro A W hx hf
  exact Q02 0 tu25 (k := 0) rfl Q4r rfl (o1 s5 hx (r0 hf)) rfl
  apply oc0; intro A W hx hf
  exact Q0a tu4 rfl (q0 ?b25_0 A W 76 hf) rfl
  apply oc0; intro A W hx hf
  exact Q43 (q0 ?b25_1 A W 77 hf)
  exact onn
 case t25 => exact inferInstance
 clear hr; intro a26 w26 x hr hd hs
 revert s11; revert s14; revert s12; revert s10; revert s13; revert s0; refine kp6 hs rfl ?_; intro s0 s13 s10 s12 s14 s11
 clear s5
 have s78 := fa ?b25_2 a26 w26 78 (hd 2 78 rfl)
 replace e_w := e_w.trans x
 have e_w24 := x; clear hd hs x
 refine et ?_
 refine Q33 (fun A W => Fr 141 A ∧ Same Q82 a26 A ∧ Ext w W ∧ (PxS g4_10 w.heap.size [1, 1, 16, 1, 16, 1, 1, 1, 1, 1, 1, 1] (pktF (natK l)) 0) (A.eval (.tmp 10)) W ∧ (OwnBA g12_11 w.heap.size 5 (natB l Sa n dst)) (A.eval (.tmp 11)) W ∧ (PxS g14_12 w.heap.size [1, 1, 1] (plcS ⟨(at12 l dst : Int), (sz12 (Q1k l) : Int), (pl12 l dst : Int)⟩) 0) (A.eval (.tmp 12)) W ∧ (SxS g2_5 w.heap.size [1, 16] [[.bool Sa.six], Sa.b.map Q0t] 1 0 (sz12 (Q1k l)) 16) (A.eval (.tmp 14)) W) ?cut27 ?_
 case cut27 =>
  have m27 : Same Q82 a26 a26 := Same.rfl
  refine wp_cond_split (show _ = _ from s78) (fun h6 => ?_) (fun h6 => ?_)
  ·
   have h6 : Q1k l = false := by rw [← P.six]; simpa using h6
   refine Q1s Q08 (fun w29 x => ?_)
   show wpAny _ _ _ _ 13 _ _ _
   replace e_w := e_w.trans x
   replace e_w24 := e_w24.trans x
   have e_w26 := x
   clear x
   refine Q60 (l := [_, _, _, _, _, _, _, _, _, _, _, _, _]) 141 _ [false, false, false, false, false, false, false, false, false, false, false, false, true] [12] [[(11, none)], [(10, none)], [(80, some 1)], [(81, some 2)], [(0, none)], [(10, none)], [(84, some 5)], [(85, some 6)], [(83, some 4), (86, some 7)], [(13, none)], [(14, none)], [(87, some 8), (88, some 9), (89, some 10)], []] [?b30_0, ?b30_1, ?b30_2, ?b30_3, ?b30_4, ?b30_5, ?b30_6, ?b30_7, ?b30_8, ?b30_9, ?b30_10, ?b30_11, VP.top] (by kernel_rfl) rfl (by kernel_rfl) hr ?t30 ?o30 ?_
   case o30 =>
    apply lc0; intro A W hx hf
    exact Q01 (a0 := a26) (r0 hf)
    apply lc0; intro A W hx hf
    exact Q02 9 tu37 (k := 3) rfl Q0m rfl (o2 s10 e_w24 hx (r0 hf)) rfl
    apply lc0; intro A W hx hf
    exact Q0a tu3 rfl (q0 ?b30_1 A W 80 hf) rfl
    apply lc0; intro A W hx hf
    exact Q0o (q0 ?b30_2 A W 81 hf) (ec A (.int .i64 10)) (by show (-9223372036854775808 : Int) ≤ (pkA l : Int) + 10 ∧ (pkA l : Int) + 10 ≤ 9223372036854775807; omega)
    apply lc0; intro A W hx hf
    exact Q01 (a0 := a26) (r0 hf)
    apply lc0; intro A W hx hf
    exact Q02 9 tu37 (k := 3) rfl Q0m rfl (o2 s10 e_w24 hx (r0 hf)) rfl
    apply lc0; intro A W hx hf
    exact Q0a tu3 rfl (q0 ?b30_5 A W 84 hf) rfl
    apply lc0; intro A W hx hf
    exact Q0o (q0 ?b30_6 A W 85 hf) (ec A (.int .i64 10)) (by show (-9223372036854775808 : Int) ≤ (pkA l : Int) + 10 ∧ (pkA l : Int) + 10 ≤ 9223372036854775807; omega)
    apply lc0; intro A W hx hf
    exact Q0p Qmp (Qn5 (p2 s0 e_w hx (q0 ?b30_4 A W 83 hf)) (Is.int (q1 ?b30_7 A W 86 hf) (show _ = ((ip12 l : Nat) : Int) from by show (pkA l : Int) + 10 = _; omega)) (by omega))
    apply lc0; intro A W hx hf
    exact Q01 (a0 := a26) (r0 hf)
    apply lc0; intro A W hx hf
    exact Q01 (a0 := a26) (r0 hf)
    apply lc0; intro A W hx hf
    exact Q2y Qik (Qag (q0 ?b30_8 A W 87 hf) (p2 s13 e_w hx (q1 ?b30_9 A W 88 hf)) (SxS.hi (p2 s14 e_w24 hx (q2 ?b30_10 A W 89 hf)) rfl (by decide)) (by exact hw1) (by exact Nat.le_trans hol (by decide)) (by show (Q1f l Sa).length ≤ _; omega))
    refine lcs ?_
    exact lcn
   case t30 => exact inferInstance
   clear hr; intro a31 w31 x hr hd hs
   have u79 := mv s11 (fa ?b30_0 a31 w31 79 (hd 0 79 rfl rfl))
   have u83 := mv s0 (fa ?b30_4 a31 w31 83 (hd 4 83 rfl rfl))
   have u88 := mv s13 (fa ?b30_9 a31 w31 88 (hd 9 88 rfl rfl))
   have u89 := mv s14 (fa ?b30_10 a31 w31 89 (hd 10 89 rfl rfl))
   revert s11; revert s14; revert s12; revert s10; revert s13; revert s0; refine kp6 hs rfl ?_; intro s0 s13 s10 s12 s14 s11
   clear s78
   have s79 := u79; clear u79
   have s83 := u83; clear u83
   have s88 := u88; clear u88
   have s89 := u89; clear u89
   have s80 := fa ?b30_1 a31 w31 80 (hd 1 80 rfl rfl)
   have s81 := fa ?b30_2 a31 w31 81 (hd 2 81 rfl rfl)
   have s82 := fa ?b30_3 a31 w31 82 (hd 3 82 rfl rfl)
   have s84 := fa ?b30_5 a31 w31 84 (hd 5 84 rfl rfl)
   have s85 := fa ?b30_6 a31 w31 85 (hd 6 85 rfl rfl)
   have s86 := fa ?b30_7 a31 w31 86 (hd 7 86 rfl rfl)
   have s87 := fa ?b30_8 a31 w31 87 (hd 8 87 rfl rfl)
   have s90 := fa ?b30_11 a31 w31 90 (hd 11 90 rfl rfl)
   replace e_w := e_w.trans x
   replace e_w24 := e_w24.trans x
   clear e_w26
   replace m27 := m27.tr hs rfl; clear hd hs x
   show wpList _ _ _ [_] _ _
   have z32 := OwnBA.lt (Q00 e_w24 s79)
   have l32 := (show (g12_11 = 0 ∨ w.heap.size < g12_11) ∧ True from ⟨by omega, trivial⟩)
   have l32_10 := PxS.lt (Q00 e_w24 s10)
   have l32_12 := PxS.lt (Q00 e_w24 s12)
   have l32_14 := SxS.lt (Q00 e_w24 s14)
   refine Qd8 hr Qmo (Qn6 (Q00 e_w24 s79) (Is.int s82 (show _ = ((ip12 l : Nat) : Int) from by show (pkA l : Int) + 10 = _; omega)) s90 (by rw [hal]; omega) (by exact Qog l Sa dst)) ?_; clear hr; intro a32 w32 hc hu hr hs
   have hb : Below w.heap.size w31 w32 := hc.below e_w.size l32.1
   revert s11; revert s14; revert s12; revert s10; revert s13; revert s0; refine kp6 hs rfl ?_; intro s0 s13 s10 s12 s14 s11
   clear s79 s83 s88 s89 s80 s81 s82 s84 s85 s86 s87 s90
   replace s10 := PxS.other (Q00 e_w24 s10) hc (by omega)
   replace s12 := PxS.other (Q00 e_w24 s12) hc (by omega)
   replace s14 := SxS.other (Q00 e_w24 s14) hc (by omega)
   replace s11 := hu _ _ _ (Q00 e_w24 s11)
   replace e_w := e_w.below (Nat.le_refl _) hb
   clear e_w24
   replace m27 := m27.tr hs rfl
   clear hu hs hc hb
   refine wpList_nil ?_
   replace s11 := OwnBA.cast s11 (show _ = natB l Sa n dst from Qiv h6)
   refine et ?_
   refine ⟨hr, m27, e_w, ?_, ?_, ?_, ?_⟩
   · exact s10
   · first | exact s11 | exact OwnBA.cast s11 (Qg4 h6)
   · exact s12
   · exact s14
  have h6 : Q1k l = true := by rw [← P.six]; simpa using h6
  refine wp_skip ?_
  refine et ?_
  refine ⟨hr, m27, e_w, ?_, ?_, ?_, ?_⟩
  · exact (Q00 e_w24 s10)
  · first | exact (Q00 e_w24 s11) | exact OwnBA.cast (Q00 e_w24 s11) (Qg4 h6)
  · exact (Q00 e_w24 s12)
  · exact (Q00 e_w24 s14)
 intro a27 w27 hI
 clear e_w
 clear e_w24
 clear hr; obtain ⟨hr, hs, e_w, u10, u11, u12, u14⟩ := hI
 revert s13; revert s0; refine kp2 hs rfl ?_; intro s0 s13
 clear s10 s12 s14 s11 s78
 have s10 := u10; clear u10
 have s11 := u11; clear u11
 have s12 := u12; clear u12
 have s14 := u14; clear u14
 clear hs
 refine sq ?_
 refine Q04 141 [[(10, none)], [(92, some 0)], [(10, none)], [(94, some 2)], [(95, some 3)], [(96, some 4)], [(93, some 1), (97, some 5)], [(98, some 6)]] [?b33_0, ?b33_1, ?b33_2, ?b33_3, ?b33_4, ?b33_5, ?b33_6, ?b33_6] Q08 hr ?t33 ?o33 ?_
 case o33 =>
  apply oc0; intro A W hx hf
  exact Q02 10 tu37 (k := 4) rfl Q0m rfl (o1 s10 hx (r0 hf)) rfl
  apply oc0; intro A W hx hf
  exact Q0a tu3 rfl (q0 ?b33_0 A W 92 hf) rfl
  apply oc0; intro A W hx hf
  exact Q02 1 tu37 (k := 1) rfl Q37 rfl (o1 s10 hx (r0 hf)) rfl
  apply oc0; intro A W hx hf
  exact Q02 5 tu35 (k := 2) rfl Q0m rfl (q0 ?b33_2 A W 94 hf) rfl
  apply oc0; intro A W hx hf
  exact Q0a tu3 rfl (q0 ?b33_3 A W 95 hf) rfl
  apply oc0; intro A W hx hf
  exact Q18 Qpw (Qm0 (q0 ?b33_4 A W 96 hf))
  apply oc0; intro A W hx hf
  exact Q0o (q0 ?b33_1 A W 93 hf) (q1 ?b33_5 A W 97 hf) (by show (-9223372036854775808 : Int) ≤ (Q1u l : Int) + Q2f (pkN l).1.proto ∧ (Q1u l : Int) + Q2f (pkN l).1.proto ≤ 9223372036854775807; omega)
  apply oc0; intro A W hx hf
  exact Q03 (q0 ?b33_6 A W 98 hf)
  exact onn
 case t33 => exact inferInstance
 clear hr; intro a34 w34 x hr hd hs
 revert s14; revert s12; revert s11; revert s10; revert s13; revert s0; refine kp6 hs rfl ?_; intro s0 s13 s10 s11 s12 s14
 have s15 := fa ?b33_6 a34 w34 15 (hd 7 15 rfl)
 replace e_w := e_w.trans x
 have e_w27 := x; clear hd hs x
 replace s15 := Is.int s15 (show _ = ((ck12 l : Nat) : Int) from by show (Q1u l : Int) + Q2f (pkN l).1.proto = _; omega)
 refine es ?_
 refine Q04 141 [[(0, none)], [(15, none)], [(99, some 0), (100, some 1)], [(101, some 2)]] [?b35_0, ?b35_1, ?b35_2, ?b35_2] Q08 hr ?t35 ?o35 ?_
 case o35 =>
  apply oc0; intro A W hx hf
  exact Q01 (a0 := a34) (r0 hf)
  apply oc0; intro A W hx hf
  exact Q01 (a0 := a34) (r0 hf)
  apply oc0; intro A W hx hf
  exact Q0p Qmp (Qn5 (p2 s0 e_w hx (q0 ?b35_0 A W 99 hf)) (p1 s15 hx (q1 ?b35_1 A W 100 hf)) (by omega))
  apply oc0; intro A W hx hf
  exact Q03 (q0 ?b35_2 A W 101 hf)
  exact onn
 case t35 => exact inferInstance
 clear hr; intro a36 w36 x hr hd hs
 revert s14; revert s12; revert s11; revert s10; revert s13; revert s0; refine kp6 hs rfl ?_; intro s0 s13 s10 s11 s12 s14
 revert s15; refine kp1 hs rfl ?_; intro s15
 have s16 := fa ?b35_2 a36 w36 16 (hd 3 16 rfl)
 replace e_w := e_w.trans x
 replace e_w27 := e_w27.trans x
 have e_w34 := x; clear hd hs x
 refine es ?_
 refine Q04 141 [[(10, none)], [(102, some 0)], [(103, some 1)], [(104, some 2)], [(105, some 3)]] [?b37_0, ?b37_1, ?b37_2, ?b37_3, ?b37_3] Q08 hr ?t37 ?o37 ?_
 case o37 =>
  apply oc0; intro A W hx hf
  exact Q02 1 tu37 (k := 1) rfl Q37 rfl (o2 s10 e_w27 hx (r0 hf)) rfl
  apply oc0; intro A W hx hf
  exact Q02 5 tu35 (k := 2) rfl Q0m rfl (q0 ?b37_0 A W 102 hf) rfl
  apply oc0; intro A W hx hf
  exact Q0a tu3 rfl (q0 ?b37_1 A W 103 hf) rfl
  apply oc0; intro A W hx hf
  exact Q1i (q0 ?b37_2 A W 104 hf) (ec A (.int .i64 17))
  apply oc0; intro A W hx hf
  exact Q03 (q0 ?b37_3 A W 105 hf)
  exact onn
 case t37 => exact inferInstance
 clear hr; intro a38 w38 x hr hd hs
 revert s15; revert s14; revert s12; revert s11; revert s13; revert s0; refine kp6 hs rfl ?_; intro s0 s13 s11 s12 s14 s15
 revert s16; refine kp1 hs rfl ?_; intro s16
 clear s10
 have s17 := fa ?b37_3 a38 w38 17 (hd 4 17 rfl)
 replace e_w := e_w.trans x
 replace e_w27 := e_w27.trans x
 replace e_w34 := e_w34.trans x
 have e_w36 := x; clear hd hs x
 refine es ?_
 refine sq ?_
 refine Q04 141 [[(17, none)], [(106, some 0)], [(16, none), (107, some 1)], [(108, some 2), (107, some 1)], [(107, some 1), (109, some 3)]] [?b39_0, ?b39_0, ?b39_2, ?b39_3, ?b39_4] Q08 hr ?t39 ?o39 ?_
 case o39 =>
  apply oc0; intro A W hx hf
  exact Q01 (a0 := a38) (r0 hf)
  apply oc0; intro A W hx hf
  exact Q0h (q0 ?b39_0 A W 106 hf)
  refine ocg 107 ?_ (fun A W hx hf => ?_) ?_
  rfl
  exact gd_t (p1 s17 hx (q1 ?b39_0 A W 107 hf)) (fun hc => Q01 (a0 := a38) (r0 hf))
  refine ocg 107 ?_ (fun A W hx hf => ?_) ?_
  rfl
  exact gd_t (p1 s17 hx (q1 ?b39_0 A W 107 hf)) (fun hc => Q1i (p2 s16 e_w36 hx (G.get (q0 ?b39_2 A W 108 hf) hc)) (ec A (.int .u16 0)))
  apply oc0; intro A W hx hf
  exact Q2p (p1 s17 hx (q0 ?b39_0 A W 107 hf)) (q1 ?b39_3 A W 109 hf)
  exact onn
 case t39 => exact inferInstance
 clear hr; intro a40 w40 x hr hd hs
 revert s15; revert s14; revert s12; revert s11; revert s13; revert s0; refine kp6 hs rfl ?_; intro s0 s13 s11 s12 s14 s15
 revert s17; revert s16; refine kp2 hs rfl ?_; intro s16 s17
 have s110 := fa ?b39_4 a40 w40 110 (hd 4 110 rfl)
 replace e_w := e_w.trans x
 replace e_w27 := e_w27.trans x
 replace e_w34 := e_w34.trans x
 replace e_w36 := e_w36.trans x
 have e_w38 := x; clear hd hs x
 refine et ?_
 refine wp_cond_split (show _ = _ from s110) (fun hu => ?_) (fun hu => ?_)
 ·
  have hu := Qqp hu
  refine sq ?_
  refine Q04 141 [[(11, none)], [(111, some 0)], []] [?b42_0, ?b42_0, ?b42_2] Q08 hr ?t42 ?o42 ?_
  case o42 =>
   apply oc0; intro A W hx hf
   exact Q01 (a0 := a40) (r0 hf)
   apply oc0; intro A W hx hf
   exact Q03 (q0 ?b42_0 A W 111 hf)
   apply oc0; intro A W hx hf
   exact Q05
   exact onn
  case t42 => exact inferInstance
  clear hr; intro a43 w43 x hr hd hs
  have u8 := mv s11 (fa ?b42_0 a43 w43 8 (hd 1 8 rfl))
  clear s0 s13 s11 s12 s14 s15 s16 s17 s110
  have s8 := u8; clear u8
  have s9 := fa ?b42_2 a43 w43 9 (hd 2 9 rfl)
  replace e_w := e_w.trans x
  replace e_w27 := e_w27.trans x
  clear e_w34
  clear e_w36
  clear e_w38; clear hd hs x
  replace s8 := OwnBA.cast s8 (Ql9 hu)
  refine et ?_
  refine wp_ret ?_
  refine Q0e ?_
  refine Q7g Try.results21 hr e_w ?_
  first | (rw [hno]; exact ⟨_, _, rfl, OwnB.mono (Q00 e_w27 s8).own hB, s9⟩) | (rw [hyes.1]; exact ⟨_, _, rfl, OwnB.mono (Q00 e_w27 s8).own hB, s9⟩)
 have hu := Qqq hu
 refine wp_skip ?_
 refine es ?_
 refine Q04 141 [[(16, none)], [(13, none)], [(14, none)], [(112, some 0), (113, some 1), (114, some 2)], [(0, none)], [(12, none)], [(117, some 5)], [(12, none)], [(119, some 7)], [(120, some 8)], [(116, some 4), (118, some 6), (121, some 9)], [(11, none)], [(12, none)], [(124, some 12)], [(12, none)], [(126, some 14)], [(127, some 15)], [(123, some 11), (125, some 13), (128, some 16)], [(115, some 3), (122, some 10), (129, some 17)], [(130, some 18)]] [?b44_0, ?b44_1, ?b44_2, ?b44_3, ?b44_4, ?b44_5, ?b44_6, ?b44_7, ?b44_8, ?b44_9, ?b44_10, ?b44_11, ?b44_12, ?b44_13, ?b44_14, ?b44_15, ?b44_16, ?b44_17, ?b44_18, ?b44_18] Q08 hr ?t44 ?o44 ?_
 case o44 =>
  apply oc0; intro A W hx hf
  exact Q01 (a0 := a40) (r0 hf)
  apply oc0; intro A W hx hf
  exact Q01 (a0 := a40) (r0 hf)
  apply oc0; intro A W hx hf
  exact Q01 (a0 := a40) (r0 hf)
  apply oc0; intro A W hx hf
  exact Q2y Qik (Qag (p2 s16 e_w36 hx (q0 ?b44_0 A W 112 hf)) (p2 s13 e_w hx (q1 ?b44_1 A W 113 hf)) (SxS.hi (p2 s14 e_w27 hx (q2 ?b44_2 A W 114 hf)) rfl (by decide)) (by exact hw2) (by exact Nat.le_trans hol (by decide)) (by show (Q1f l Sa).length ≤ _; omega))
  apply oc0; intro A W hx hf
  exact Q01 (a0 := a40) (r0 hf)
  apply oc0; intro A W hx hf
  exact Q02 2 tu81 (k := 2) rfl Q0m rfl (o2 s12 e_w27 hx (r0 hf)) rfl
  apply oc0; intro A W hx hf
  exact Q0a tu3 rfl (q0 ?b44_5 A W 117 hf) rfl
  apply oc0; intro A W hx hf
  exact Q02 2 tu81 (k := 2) rfl Q0m rfl (o2 s12 e_w27 hx (r0 hf)) rfl
  apply oc0; intro A W hx hf
  exact Q0a tu3 rfl (q0 ?b44_7 A W 119 hf) rfl
  apply oc0; intro A W hx hf
  exact Q0o (q0 ?b44_8 A W 120 hf) (ec A (.int .i64 2)) (by show (-9223372036854775808 : Int) ≤ (pl12 l dst : Int) + 2 ∧ (pl12 l dst : Int) + 2 ≤ 9223372036854775807; omega)
  apply oc0; intro A W hx hf
  exact Q69 (pl12 l dst) (pl12 l dst + 2) tu22 Q0s (sarg s0 (show _ = _ from (q0 ?b44_4 A W 116 hf))) (Is.int (q1 ?b44_6 A W 118 hf) (by rfl)) (Is.int (q2 ?b44_9 A W 121 hf) (by show (pl12 l dst : Int) + 2 = _; omega)) (by omega) (by omega)
  apply oc0; intro A W hx hf
  exact Q01 (a0 := a40) (r0 hf)
  apply oc0; intro A W hx hf
  exact Q02 2 tu81 (k := 2) rfl Q0m rfl (o2 s12 e_w27 hx (r0 hf)) rfl
  apply oc0; intro A W hx hf
  exact Q0a tu3 rfl (q0 ?b44_12 A W 124 hf) rfl
  apply oc0; intro A W hx hf
  exact Q02 2 tu81 (k := 2) rfl Q0m rfl (o2 s12 e_w27 hx (r0 hf)) rfl
  apply oc0; intro A W hx hf
  exact Q0a tu3 rfl (q0 ?b44_14 A W 126 hf) rfl
  apply oc0; intro A W hx hf
  exact Q0o (q0 ?b44_15 A W 127 hf) (ec A (.int .i64 2)) (by show (-9223372036854775808 : Int) ≤ (pl12 l dst : Int) + 2 ∧ (pl12 l dst : Int) + 2 ≤ 9223372036854775807; omega)
  apply oc0; intro A W hx hf
  exact Q3x (pl12 l dst) (pl12 l dst + 2) tu22 Q0s (OwnBA.bs (p2 s11 e_w27 hx (q0 ?b44_11 A W 123 hf))) (Is.int (q1 ?b44_13 A W 125 hf) (by rfl)) (Is.int (q2 ?b44_16 A W 128 hf) (by show (pl12 l dst : Int) + 2 = _; omega)) (by omega) (by omega)
  apply oc0; intro A W hx hf
  exact Q2y Qik (Qag (q0 ?b44_3 A W 115 hf) (AtW.now (q1 ?b44_10 A W 122 hf) (e_w.trans hx)) (Bs.cast (q2 ?b44_17 A W 129 hf) (Qiw b hA)) (by exact hwp) (by unfold subl; simp; omega) (by rw [Q0d]; decide))
  apply oc0; intro A W hx hf
  exact Q03 (q0 ?b44_18 A W 130 hf)
  exact onn
 case t44 => exact inferInstance
 clear hr; intro a45 w45 x hr hd hs
 revert s17; revert s15; revert s11; refine kp3 hs rfl ?_; intro s11 s15 s17
 clear s0 s13 s12 s14 s16 s110
 have s18 := fa ?b44_18 a45 w45 18 (hd 19 18 rfl)
 replace e_w := e_w.trans x
 replace e_w27 := e_w27.trans x
 replace e_w34 := e_w34.trans x
 clear e_w36
 replace e_w38 := e_w38.trans x; clear hd hs x
 replace s18 := Is.int s18 (show _ = Q64 l Sa n dst from rfl)
 refine es ?_
 refine sq ?_
 refine Q04 141 [[(17, none)], [(131, some 0)], [(18, none), (132, some 1)], [(133, some 2), (132, some 1)], [(132, some 1), (134, some 3)]] [?b46_0, ?b46_0, ?b46_2, ?b46_3, ?b46_4] Q08 hr ?t46 ?o46 ?_
 case o46 =>
  apply oc0; intro A W hx hf
  exact Q01 (a0 := a45) (r0 hf)
  apply oc0; intro A W hx hf
  exact Q0h (q0 ?b46_0 A W 131 hf)
  refine ocg 132 ?_ (fun A W hx hf => ?_) ?_
  rfl
  exact gd_t (p2 s17 e_w38 hx (q1 ?b46_0 A W 132 hf)) (fun hc => Q01 (a0 := a45) (r0 hf))
  refine ocg 132 ?_ (fun A W hx hf => ?_) ?_
  rfl
  exact gd_t (p2 s17 e_w38 hx (q1 ?b46_0 A W 132 hf)) (fun hc => Q1i (p1 s18 hx (G.get (q0 ?b46_2 A W 133 hf) hc)) (ec A (.int .u16 0)))
  apply oc0; intro A W hx hf
  exact Q2p (p2 s17 e_w38 hx (q0 ?b46_0 A W 132 hf)) (q1 ?b46_3 A W 134 hf)
  exact onn
 case t46 => exact inferInstance
 clear hr; intro a47 w47 x hr hd hs
 revert s18; revert s15; revert s11; refine kp3 hs rfl ?_; intro s11 s15 s18
 clear s17
 have s135 := fa ?b46_4 a47 w47 135 (hd 4 135 rfl)
 replace e_w := e_w.trans x
 replace e_w27 := e_w27.trans x
 replace e_w34 := e_w34.trans x
 clear e_w38
 have e_w45 := x; clear hd hs x
 refine et ?_
 refine Q33 (fun A W => Fr 141 A ∧ Same Q83 a47 A ∧ Ext w W ∧ (OwnBA g12_11 w.heap.size 5 (natB l Sa n dst)) (A.eval (.tmp 11)) W ∧ (Is (.int .u16 (pFix (pkN l).1.proto (Q64 l Sa n dst)))) (A.eval (.tmp 18)) W) ?cut48 ?_
 case cut48 =>
  have m48 : Same Q83 a47 a47 := Same.rfl
  refine wp_cond_split (show _ = _ from s135) (fun hz9 => ?_) (fun hz9 => ?_)
  ·
   skip
   refine Q04 141 [[]] [?b50_0] Q08 hr ?t50 ?o50 ?_
   case o50 =>
    apply oc0; intro A W hx hf
    exact Q05
    exact onn
   case t50 => exact inferInstance
   clear hr; intro a51 w51 x hr hd hs
   revert s15; revert s11; refine kp2 hs rfl ?_; intro s11 s15
   clear s18 s135
   have s18 := fa ?b50_0 a51 w51 18 (hd 0 18 rfl)
   replace e_w := e_w.trans x
   replace e_w27 := e_w27.trans x
   replace e_w34 := e_w34.trans x
   clear e_w45
   replace m48 := m48.tr hs rfl; clear hd hs x
   refine et ?_
   refine ⟨hr, m48, e_w, ?_, ?_⟩
   · exact (Q00 e_w27 s11)
   · first | exact Is.int s18 (Qmz hz9).symm | exact Is.int s18 (Qn0 hz9).symm
  skip
  refine wp_skip ?_
  refine et ?_
  refine ⟨hr, m48, e_w, ?_, ?_⟩
  · exact (Q00 e_w27 s11)
  · first | exact Is.int (Q00 e_w45 s18) (Qmz hz9).symm | exact Is.int (Q00 e_w45 s18) (Qn0 hz9).symm
 intro a48 w48 hI
 clear e_w
 clear e_w27
 clear e_w34
 clear e_w45
 clear hr; obtain ⟨hr, hs, e_w, u11, u18⟩ := hI
 revert s15; refine kp1 hs rfl ?_; intro s15
 clear s11 s18 s135
 have s11 := u11; clear u11
 have s18 := u18; clear u18
 replace s15 := anyw (w2 := w48) s15
 clear hs
 refine sq ?_
 refine Q06 (l := [_, _, _]) (rest := [_]) 141 [[(11, none)], [(15, none)], [(18, none)]] [?b52_0, ?b52_1, ?b52_2] hr ?t52 ?o52 ?_
 case o52 =>
  apply oc0; intro A W hx hf
  exact Q01 (a0 := a48) (r0 hf)
  apply oc0; intro A W hx hf
  exact Q01 (a0 := a48) (r0 hf)
  apply oc0; intro A W hx hf
  exact Q01 (a0 := a48) (r0 hf)
  exact onn
 case t52 => exact inferInstance
 clear hr; intro a53 w53 x hr hd hs
 have u136 := mv s11 (fa ?b52_0 a53 w53 136 (hd 0 136 rfl))
 have u137 := mv s15 (fa ?b52_1 a53 w53 137 (hd 1 137 rfl))
 have u138 := mv s18 (fa ?b52_2 a53 w53 138 (hd 2 138 rfl))
 revert s11; refine kp1 hs rfl ?_; intro s11
 clear s18 s15
 have s136 := u136; clear u136
 have s137 := u137; clear u137
 have s138 := u138; clear u138
 replace e_w := e_w.trans x
 have e_w48 := x; clear hd hs x
 have z54 := OwnBA.lt (Q00 e_w48 s136)
 have l54 := (show (g12_11 = 0 ∨ w.heap.size < g12_11) ∧ True from ⟨by omega, trivial⟩)
 refine Qd8 hr Qmo (Qn6 (Q00 e_w48 s136) (Q00 e_w48 s137) (Q00 e_w48 s138) (by rw [hbl2]; omega) (by exact Qeu (Qoh l Sa n dst))) ?_; clear hr; intro a54 w54 hc hu hr hs
 have hb : Below w.heap.size w53 w54 := hc.below e_w.size l54.1
 revert s11; refine kp1 hs rfl ?_; intro s11
 clear s136 s137 s138
 replace s11 := hu _ _ _ (Q00 e_w48 s11)
 replace e_w := e_w.below (Nat.le_refl _) hb
 clear e_w48
 clear hu hs hc hb
 refine wpList_nil ?_
 replace s11 := OwnBA.cast s11 (Qnt hu)
 refine es ?_
 refine Q04 141 [[(11, none)], [(140, some 0)], []] [?b55_0, ?b55_0, ?b55_2] Q08 hr ?t55 ?o55 ?_
 case o55 =>
  apply oc0; intro A W hx hf
  exact Q01 (a0 := a54) (r0 hf)
  apply oc0; intro A W hx hf
  exact Q03 (q0 ?b55_0 A W 140 hf)
  apply oc0; intro A W hx hf
  exact Q05
  exact onn
 case t55 => exact inferInstance
 clear hr; intro a56 w56 x hr hd hs
 have u8 := mv s11 (fa ?b55_0 a56 w56 8 (hd 1 8 rfl))
 clear s11
 have s8 := u8; clear u8
 have s9 := fa ?b55_2 a56 w56 9 (hd 2 9 rfl)
 replace e_w := e_w.trans x
 have e_w54 := x; clear hd hs x
 refine et ?_
 refine wp_ret ?_
 refine Q7g Try.results21 hr e_w ?_
 first | (rw [hno]; exact ⟨_, _, rfl, OwnB.mono (Q00 e_w54 s8).own hB, s9⟩) | (rw [hyes.1]; exact ⟨_, _, rfl, OwnB.mono (Q00 e_w54 s8).own hB, s9⟩)

theorem Qjz {x0 x1 x2 : Value} {w : World} {l : List UInt8} {Sa : Adr} {n : Int} {B : Nat} (h0 : (Bs l) x0 w) (h1 : (Is (AdrV Sa)) x1 w) (h2 : (Is (.int .i64 n)) x2 w) (hA : Sa.b.length = 16) (hl9 : l.length ≤ 900000) (hB : B ≤ w.heap.size) :
    Calls Try.prog 10 #[x0, x1, x2] w (Ret (Tup2 (OwnB B 5 (natR l Sa n true).1) (Is (.int .i64 (natR l Sa n true).2))) w) := by
 refine enter Try.func10 rfl Try.ntmps10 (k := 3) rfl (by decide) (fun a0 hr hargs => ?_)
 have s0 := sarg h0 (hargs 0 (by decide))
 have s1 := sarg h1 (hargs 1 (by decide))
 have s2 := sarg h2 (hargs 2 (by decide))
 clear hargs
 refine sq ?_
 refine Q04 14 [[(1, none)], [], []] [?b1_0, ?b1_1, ?b1_2] Q08 hr ?t1 ?o1 ?_
 case o1 =>
  apply oc0; intro A W hx hf
  exact Q1y [[.bool Sa.six], Sa.b.map Q0t] [1, 16] (Is.conv (o1 s1 hx (r0 hf)) (Q1o Sa).symm) (by simp [*]) hx.size
  apply oc0; intro A W hx hf
  exact Q1l (OwnBA 0 w.heap.size 5 []) (fun _ => Q2o)
  apply oc0; intro A W hx hf
  exact Q05
  exact onn
 case t1 => exact inferInstance
 clear hr; intro a2 w2 x hr hd hs
 revert s2; revert s0; refine kp2 hs rfl ?_; intro s0 s2
 clear s1
 have s4 := fa ?b1_0 a2 w2 4 (hd 0 4 rfl)
 obtain ⟨g2_4, q2_4⟩ := PxN.at s4; clear s4; have n2_4 := PxS.lt q2_4
 have s4 := q2_4; clear q2_4
 have e_w := x; clear hd hs x
 refine es ?_
 refine Q04 14 [[(0, none)], [(4, none)], [(2, none)], [(8, some 0), (9, some 1), (10, some 2)], [(11, some 3)], [(11, some 3)], [(12, some 4)], [(13, some 5)]] [?b3_0, ?b3_1, ?b3_2, ?b3_3, ?b3_4, ?b3_5, ?b3_4, ?b3_5] Q08 hr ?t3 ?o3 ?_
 case o3 =>
  apply oc0; intro A W hx hf
  exact Q01 (a0 := a2) (r0 hf)
  apply oc0; intro A W hx hf
  exact Q0b 2 tu25 rfl Q0z (o1 s4 hx (r0 hf)) rfl
  apply oc0; intro A W hx hf
  exact Q01 (a0 := a2) (r0 hf)
  apply oc0; intro A W hx hf
  exact Q3p Qml (Qdy (p2 s0 e_w hx (q0 ?b3_0 A W 8 hf)) (Is.conv (q1 ?b3_1 A W 9 hf) (Q1o Sa)) (p2 s2 e_w hx (q2 ?b3_2 A W 10 hf)) (show Is (.bool true) (A.eval (.const (.bool true))) _ from rfl) (by exact hA) (by exact hl9) hx.size)
  apply oc0; intro A W hx hf
  exact Q2t (q0 ?b3_3 A W 11 hf)
  apply oc0; intro A W hx hf
  exact Q2u (q0 ?b3_3 A W 11 hf)
  apply oc0; intro A W hx hf
  exact Q03 (q0 ?b3_4 A W 12 hf)
  apply oc0; intro A W hx hf
  exact Q03 (q0 ?b3_5 A W 13 hf)
  exact onn
 case t3 => exact inferInstance
 clear hr; intro a4 w4 x hr hd hs
 have z_w_w2 := e_w.size
 have l4_4 := PxS.lt s4
 clear s0 s2 s4
 have s6 := fa ?b3_4 a4 w4 6 (hd 6 6 rfl)
 have s7 := fa ?b3_5 a4 w4 7 (hd 7 7 rfl)
 obtain ⟨g4_6, q4_6⟩ := OwnB.at s6; clear s6; have n4_6 := OwnBA.lt q4_6
 replace q4_6 := OwnBA.mono q4_6 e_w.size
 have s6 := q4_6; clear q4_6
 replace e_w := e_w.trans x; clear hd hs x
 refine et ?_
 refine wp_ret ?_
 refine Q7g Try.results10 hr e_w ?_
 exact ⟨_, _, rfl, OwnB.mono s6.own hB, s7⟩

theorem Qk0 {x0 x1 x2 : Value} {w : World} {l : List UInt8} {Sa : Adr} {n : Int} {B : Nat} (h0 : (Bs l) x0 w) (h1 : (Is (AdrV Sa)) x1 w) (h2 : (Is (.int .i64 n)) x2 w) (hA : Sa.b.length = 16) (hl9 : l.length ≤ 900000) (hB : B ≤ w.heap.size) :
    Calls Try.prog 11 #[x0, x1, x2] w (Ret (Tup2 (OwnB B 5 (natR l Sa n false).1) (Is (.int .i64 (natR l Sa n false).2))) w) := by
 refine enter Try.func11 rfl Try.ntmps11 (k := 3) rfl (by decide) (fun a0 hr hargs => ?_)
 have s0 := sarg h0 (hargs 0 (by decide))
 have s1 := sarg h1 (hargs 1 (by decide))
 have s2 := sarg h2 (hargs 2 (by decide))
 clear hargs
 refine sq ?_
 refine Q04 14 [[(1, none)], [], []] [?b1_0, ?b1_1, ?b1_2] Q08 hr ?t1 ?o1 ?_
 case o1 =>
  apply oc0; intro A W hx hf
  exact Q1y [[.bool Sa.six], Sa.b.map Q0t] [1, 16] (Is.conv (o1 s1 hx (r0 hf)) (Q1o Sa).symm) (by simp [*]) hx.size
  apply oc0; intro A W hx hf
  exact Q1l (OwnBA 0 w.heap.size 5 []) (fun _ => Q2o)
  apply oc0; intro A W hx hf
  exact Q05
  exact onn
 case t1 => exact inferInstance
 clear hr; intro a2 w2 x hr hd hs
 revert s2; revert s0; refine kp2 hs rfl ?_; intro s0 s2
 clear s1
 have s4 := fa ?b1_0 a2 w2 4 (hd 0 4 rfl)
 obtain ⟨g2_4, q2_4⟩ := PxN.at s4; clear s4; have n2_4 := PxS.lt q2_4
 have s4 := q2_4; clear q2_4
 have e_w := x; clear hd hs x
 refine es ?_
 refine Q04 14 [[(0, none)], [(4, none)], [(2, none)], [(8, some 0), (9, some 1), (10, some 2)], [(11, some 3)], [(11, some 3)], [(12, some 4)], [(13, some 5)]] [?b3_0, ?b3_1, ?b3_2, ?b3_3, ?b3_4, ?b3_5, ?b3_4, ?b3_5] Q08 hr ?t3 ?o3 ?_
 case o3 =>
  apply oc0; intro A W hx hf
  exact Q01 (a0 := a2) (r0 hf)
  apply oc0; intro A W hx hf
  exact Q0b 2 tu25 rfl Q0z (o1 s4 hx (r0 hf)) rfl
  apply oc0; intro A W hx hf
  exact Q01 (a0 := a2) (r0 hf)
  apply oc0; intro A W hx hf
  exact Q3p Qml (Qdy (p2 s0 e_w hx (q0 ?b3_0 A W 8 hf)) (Is.conv (q1 ?b3_1 A W 9 hf) (Q1o Sa)) (p2 s2 e_w hx (q2 ?b3_2 A W 10 hf)) (show Is (.bool false) (A.eval (.const (.bool false))) _ from rfl) (by exact hA) (by exact hl9) hx.size)
  apply oc0; intro A W hx hf
  exact Q2t (q0 ?b3_3 A W 11 hf)
  apply oc0; intro A W hx hf
  exact Q2u (q0 ?b3_3 A W 11 hf)
  apply oc0; intro A W hx hf
  exact Q03 (q0 ?b3_4 A W 12 hf)
  apply oc0; intro A W hx hf
  exact Q03 (q0 ?b3_5 A W 13 hf)
  exact onn
 case t3 => exact inferInstance
 clear hr; intro a4 w4 x hr hd hs
 have z_w_w2 := e_w.size
 have l4_4 := PxS.lt s4
 clear s0 s2 s4
 have s6 := fa ?b3_4 a4 w4 6 (hd 6 6 rfl)
 have s7 := fa ?b3_5 a4 w4 7 (hd 7 7 rfl)
 obtain ⟨g4_6, q4_6⟩ := OwnB.at s6; clear s6; have n4_6 := OwnBA.lt q4_6
 replace q4_6 := OwnBA.mono q4_6 e_w.size
 have s6 := q4_6; clear q4_6
 replace e_w := e_w.trans x; clear hd hs x
 refine et ?_
 refine wp_ret ?_
 refine Q7g Try.results11 hr e_w ?_
 exact ⟨_, _, rfl, OwnB.mono s6.own hB, s7⟩

end Go.Proofs.Ytlmdboaghojgiaa
