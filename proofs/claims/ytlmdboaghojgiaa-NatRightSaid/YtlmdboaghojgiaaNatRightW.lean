import Derived.Test.YtlmdboaghojgiaaA12
namespace Go.Proofs.Ytlmdboaghojgiaa
open Go.RowKit
set_option linter.unusedVariables false
set_option linter.unusedSimpArgs false
set_option maxRecDepth 4000
def Q6w : List Tmp := [10, 11, 34, 35, 36, 37, 38, 39, 40]
set_option maxHeartbeats 1000000 in
theorem Qdh {x0 x1 x2 x3 : Value} {w : World} {l : List UInt8} {Sa : Adr} {n : Int} {dst : Bool} (h0 : (Bs l) x0 w) (h1 : (Is (AdrV Sa)) x1 w) (h2 : (Is (.int .i64 n)) x2 w) (h3 : (Is (.bool dst)) x3 w) (hA : Sa.b.length = 16) :
    Calls Try.prog 5 #[x0, x1, x2, x3] w (Ret (Is (.bool true)) w) := by
 have hlen := Bs.len_le h0
 refine enter Try.func5 rfl Try.ntmps5 (k := 4) rfl (by decide) (fun a0 hr hargs => ?_)
 have s0 := sarg h0 (hargs 0 (by decide))
 have s1 := sarg h1 (hargs 1 (by decide))
 have s2 := sarg h2 (hargs 2 (by decide))
 have s3 := sarg h3 (hargs 3 (by decide))
 clear hargs
 refine sq ?_
 refine Q05 101 [[(1, none)], []] [?b1_0, ?b1_1] Q0a hr ?t1 ?o1 ?_
 case o1 =>
  apply oc0; intro A W hx hf
  exact Q2c [[.bool Sa.six], Sa.b.map Q12] [1, 16] (Is.conv (o1 s1 hx (r0 hf)) (Q1d Sa).symm) (by simp [*]) hx.size
  apply oc0; intro A W hx hf
  exact Q07
  exact onn
 case t1 => exact inferInstance
 clear hr; intro a2 w2 x hr hd hs
 revert s3; revert s2; revert s0; refine kp3 hs rfl ?_; intro s0 s2 s3
 clear s1
 have s5 := fa ?b1_0 a2 w2 5 (hd 0 5 rfl)
 obtain ⟨g2_5, q2_5⟩ := PxN.at s5; clear s5; have n2_5 := PxS.lt q2_5
 have s5 := q2_5; clear q2_5
 have e_w := x; clear hd hs x
 refine es ?_
 refine sq ?_
 refine Q05 101 [[], [(15, some 0)], [(16, some 1)], [(0, none), (17, some 2)], [(18, some 3), (17, some 2)], [(19, some 4), (17, some 2)], [(17, some 2), (20, some 5)]] [?b3_0, ?b3_1, ?b3_1, ?b3_3, ?b3_4, ?b3_5, ?b3_6] Q0a hr ?t3 ?o3 ?_
 case o3 =>
  apply oc0; intro A W hx hf
  exact Q6i Qi0 (Q69 )
  apply oc0; intro A W hx hf
  exact Q39 (q0 ?b3_0 A W 15 hf)
  apply oc0; intro A W hx hf
  exact Q0i (q0 ?b3_1 A W 16 hf)
  refine ocg 17 ?_ (fun A W hx hf => ?_) ?_
  rfl
  exact gd_f (q1 ?b3_1 A W 17 hf) (fun hc => Q01 (a0 := a2) (r0 hf))
  refine ocg 17 ?_ (fun A W hx hf => ?_) ?_
  rfl
  exact gd_f (q1 ?b3_1 A W 17 hf) (fun hc => Q0x tu22 (p2 s0 e_w hx (G.get (q0 ?b3_3 A W 18 hf) hc)))
  refine ocg 17 ?_ (fun A W hx hf => ?_) ?_
  rfl
  exact gd_f (q1 ?b3_1 A W 17 hf) (fun hc => Q3z (G.get (q0 ?b3_4 A W 19 hf) hc) (ec A (.int .i64 3000)))
  apply oc0; intro A W hx hf
  exact Q36 (q0 ?b3_1 A W 17 hf) (q1 ?b3_5 A W 20 hf)
  exact onn
 case t3 => exact inferInstance
 clear hr; intro a4 w4 x hr hd hs
 revert s5; revert s3; revert s2; revert s0; refine kp4 hs rfl ?_; intro s0 s2 s3 s5
 have s21 := fa ?b3_6 a4 w4 21 (hd 6 21 rfl)
 replace e_w := e_w.trans x
 have e_w2 := x; clear hd hs x
 refine et ?_
 refine wp_cond_split (show _ = _ from s21) (fun hg => ?_) (fun hg => ?_)
 ·
  skip
  refine sq ?_
  refine Q05 101 [[], [(22, some 0)]] [?b6_0, ?b6_0] Q0a hr ?t6 ?o6 ?_
  case o6 =>
   apply oc0; intro A W hx hf
   exact Q6i Qi0 (Q69 )
   apply oc0; intro A W hx hf
   exact Q03 (q0 ?b6_0 A W 22 hf)
   exact onn
  case t6 => exact inferInstance
  clear hr; intro a7 w7 x hr hd hs
  clear s0 s2 s3 s5 s21
  have s8 := fa ?b6_0 a7 w7 8 (hd 1 8 rfl)
  replace e_w := e_w.trans x
  clear e_w2; clear hd hs x
  refine et ?_
  refine wp_ret ?_
  refine Q0f ?_
  refine Q10 Try.results5 hr e_w ?_
  first | with_reducible exact s8 | exact Is.bool s8 (by rw [hno]; rfl) | exact Is.bool s8 (by rw [hrt]; exact beq_self_eq_true _)
 have hg9 : l.length ≤ 3000 := by simp at hg; omega
 refine wp_skip ?_
 refine es ?_
 refine Q04 (l := [_, _, _]) (rest := [_]) 101 [[(0, none)], [(23, some 0)], []] [?b8_0, ?b8_1, ?b8_2] hr ?t8 ?o8 ?_
 case o8 =>
  apply oc0; intro A W hx hf
  exact Q01 (a0 := a4) (r0 hf)
  apply oc0; intro A W hx hf
  exact Q1c Qby (Q6a (p2 s0 e_w hx (q0 ?b8_0 A W 23 hf)) (by omega))
  apply oc0; intro A W hx hf
  exact Q0u (pktF (give 0)) [1, 1, 16, 1, 16, 1, 1, 1, 1, 1, 1, 1] Q60 (by rfl) (by rfl) hx.size
  exact onn
 case t8 => exact inferInstance
 clear hr; intro a9 w9 x hr hd hs
 have z_w_w4 := e_w.size
 have z_w2_w4 := e_w2.size
 have l9_5 := PxS.lt (Q00 e_w2 s5)
 revert s5; revert s3; revert s2; revert s0; refine kp4 hs rfl ?_; intro s0 s2 s3 s5
 clear s21
 have s24 := fa ?b8_1 a9 w9 24 (hd 1 24 rfl)
 have s9 := fa ?b8_2 a9 w9 9 (hd 2 9 rfl)
 obtain ⟨g9_9, q9_9⟩ := PxN.at s9; clear s9; have n9_9 := PxS.lt q9_9
 replace q9_9 := PxS.mono q9_9 e_w.size
 have s9 := q9_9; clear q9_9
 replace e_w := e_w.trans x
 replace e_w2 := e_w2.trans x; clear hd hs x
 have z10 := PxS.lt s9
 have l10 := (show (g9_9 = 0 ∨ w.heap.size < g9_9) ∧ True from ⟨by omega, trivial⟩)
 have l10_5 := PxS.lt (Q00 e_w2 s5)
 refine Q15 (pktF (Q0d l)) hr Q2g s9 (Is.conv s24 (show _ = Value.agg (pktF (Q0d l)).flatten.toArray from (Q8h _).symm)) (by exact Q45 (Q32 _)) (by exact Q7h) rfl ?_; clear hr; intro a10 w10 hc hu hr hs
 have hb : Below w.heap.size w9 w10 := hc.below e_w.size l10.1
 revert s9; revert s5; revert s3; revert s2; revert s0; refine kp5 hs rfl ?_; intro s0 s2 s3 s5 s9
 clear s24
 replace s5 := PxS.other (Q00 e_w2 s5) hc (by omega)
 replace s9 := hu _ _ _ s9
 try simp only [List.set_cons_zero, List.set_cons_succ, pktF, tupS] at s9
 replace e_w := e_w.below (Nat.le_refl _) hb
 clear e_w2
 clear hu hs hc hb
 refine wpList_nil ?_
 refine es ?_
 refine Q05 101 [[(0, none)], [(5, none)], [(2, none)], [(26, some 0), (27, some 1), (28, some 2)], [(29, some 3)], [(25, some 4)], [(25, some 4)], [(30, some 5)], [(31, some 6)]] [?b11_0, ?b11_1, ?b11_2, ?b11_3, ?b11_3, ?b11_5, ?b11_6, ?b11_5, ?b11_6] Q0a hr ?t11 ?o11 ?_
 case o11 =>
  apply oc0; intro A W hx hf
  exact Q01 (a0 := a10) (r0 hf)
  apply oc0; intro A W hx hf
  exact Q0c 2 tu25 rfl Q0v (o1 s5 hx (r0 hf)) rfl
  apply oc0; intro A W hx hf
  exact Q01 (a0 := a10) (r0 hf)
  apply oc0; intro A W hx hf
  exact Q27 Q7p (Qbl (p2 s0 e_w hx (q0 ?b11_0 A W 26 hf)) (Is.conv (q1 ?b11_1 A W 27 hf) (Q1d Sa)) (p2 s2 e_w hx (q2 ?b11_2 A W 28 hf)) (by exact hA) (by omega) hx.size)
  apply oc0; intro A W hx hf
  exact Q0i (q0 ?b11_3 A W 29 hf)
  apply oc0; intro A W hx hf
  exact Q1z (q0 ?b11_3 A W 25 hf)
  apply oc0; intro A W hx hf
  exact Q20 (q0 ?b11_3 A W 25 hf)
  apply oc0; intro A W hx hf
  exact Q03 (q0 ?b11_5 A W 30 hf)
  apply oc0; intro A W hx hf
  exact Q03 (q0 ?b11_6 A W 31 hf)
  exact onn
 case t11 => exact inferInstance
 clear hr; intro a12 w12 x hr hd hs
 have z_w_w10 := e_w.size
 have l12_5 := PxS.lt s5
 have l12_9 := PxS.lt s9
 revert s9; revert s5; revert s3; revert s2; revert s0; refine kp5 hs rfl ?_; intro s0 s2 s3 s5 s9
 have s10 := fa ?b11_5 a12 w12 10 (hd 7 10 rfl)
 have s11 := fa ?b11_6 a12 w12 11 (hd 8 11 rfl)
 obtain ⟨g12_10, q12_10⟩ := OwnB.at s10; clear s10; have n12_10 := OwnBA.lt q12_10
 replace q12_10 := OwnBA.mono q12_10 e_w.size
 have s10 := q12_10; clear q12_10
 replace e_w := e_w.trans x
 have e_w10 := x; clear hd hs x
 refine es ?_
 refine sq ?_
 refine Q05 101 [[(3, none)], [(32, some 0)]] [?b13_0, ?b13_1] Q0a hr ?t13 ?o13 ?_
 case o13 =>
  apply oc0; intro A W hx hf
  exact Q01 (a0 := a12) (r0 hf)
  apply oc0; intro A W hx hf
  exact Q39 (p2 s3 e_w hx (q0 ?b13_0 A W 32 hf))
  exact onn
 case t13 => exact inferInstance
 clear hr; intro a14 w14 x hr hd hs
 revert s10; revert s11; revert s9; revert s5; revert s2; revert s0; refine kp6 hs rfl ?_; intro s0 s2 s5 s9 s11 s10
 clear s3
 have s33 := fa ?b13_1 a14 w14 33 (hd 1 33 rfl)
 replace e_w := e_w.trans x
 replace e_w10 := e_w10.trans x
 have e_w12 := x; clear hd hs x
 refine et ?_
 refine Q38 (fun A W => ∃ (δ : Nat), Fr 101 A ∧ Same Q6w a14 A ∧ Ext w W ∧ (g9_9 ≠ δ) ∧ (PxS g9_9 w.heap.size [1, 1, 16, 1, 16, 1, 1, 1, 1, 1, 1, 1] (pktF (Q0d l)) 0) (A.eval (.tmp 9)) W ∧ (OwnBA δ w.heap.size 5 (natR l Sa n dst).1) (A.eval (.tmp 10)) W ∧ (Is (.int .i64 (natR l Sa n dst).2)) (A.eval (.tmp 11)) W) ?cut15 ?_
 case cut15 =>
  have m15 : Same Q6w a14 a14 := Same.rfl
  refine wp_cond_split (show _ = _ from s33) (fun hd => ?_) (fun hd => ?_)
  ·
   have hd : dst = false := by simpa using hd
   refine Q05 101 [[(0, none)], [(5, none)], [(2, none)], [(35, some 0), (36, some 1), (37, some 2)], [(38, some 3)], [(34, some 4)], [(34, some 4)], [(39, some 5)], [(40, some 6)]] [?b17_0, ?b17_1, ?b17_2, ?b17_3, ?b17_3, ?b17_5, ?b17_6, ?b17_5, ?b17_6] Q0a hr ?t17 ?o17 ?_
   case o17 =>
    apply oc0; intro A W hx hf
    exact Q01 (a0 := a14) (r0 hf)
    apply oc0; intro A W hx hf
    exact Q0c 2 tu25 rfl Q0v (o2 s5 e_w10 hx (r0 hf)) rfl
    apply oc0; intro A W hx hf
    exact Q01 (a0 := a14) (r0 hf)
    apply oc0; intro A W hx hf
    exact Q27 Qja (Qf7 (p2 s0 e_w hx (q0 ?b17_0 A W 35 hf)) (Is.conv (q1 ?b17_1 A W 36 hf) (Q1d Sa)) (p2 s2 e_w hx (q2 ?b17_2 A W 37 hf)) (by exact hA) (by omega) hx.size)
    apply oc0; intro A W hx hf
    exact Q0i (q0 ?b17_3 A W 38 hf)
    apply oc0; intro A W hx hf
    exact Q1z (q0 ?b17_3 A W 34 hf)
    apply oc0; intro A W hx hf
    exact Q20 (q0 ?b17_3 A W 34 hf)
    apply oc0; intro A W hx hf
    exact Q03 (q0 ?b17_5 A W 39 hf)
    apply oc0; intro A W hx hf
    exact Q03 (q0 ?b17_6 A W 40 hf)
    exact onn
   case t17 => exact inferInstance
   clear hr; intro a18 w18 x hr hd hs
   have z_w_w14 := e_w.size
   have z_w10_w14 := e_w10.size
   have z_w12_w14 := e_w12.size
   have l18_5 := PxS.lt (Q00 e_w10 s5)
   have l18_9 := PxS.lt (Q00 e_w10 s9)
   have l18_10 := OwnBA.lt (Q00 e_w12 s10)
   revert s9; revert s0; refine kp2 hs rfl ?_; intro s0 s9
   clear s2 s5 s11 s10 s33
   have s10 := fa ?b17_5 a18 w18 10 (hd 7 10 rfl)
   have s11 := fa ?b17_6 a18 w18 11 (hd 8 11 rfl)
   obtain ⟨g18_10, q18_10⟩ := OwnB.at s10; clear s10; have n18_10 := OwnBA.lt q18_10
   replace q18_10 := OwnBA.mono q18_10 e_w.size
   have s10 := q18_10; clear q18_10
   replace e_w := e_w.trans x
   replace e_w10 := e_w10.trans x
   clear e_w12
   replace m15 := m15.tr hs rfl; clear hd hs x
   refine et ?_
   refine ⟨g18_10, hr, m15, e_w, (by first | assumption | omega), ?_, ?_, ?_⟩
   · exact (Q00 e_w10 s9)
   · first | exact OwnBA.cast s10 (by rw [hd]) | exact s10
   · first | exact Is.int s11 (by rw [hd]) | exact s11
  have hd : dst = true := by simpa using hd
  refine wp_skip ?_
  refine et ?_
  refine ⟨g12_10, hr, m15, e_w, (by first | assumption | omega), ?_, ?_, ?_⟩
  · exact (Q00 e_w10 s9)
  · first | exact OwnBA.cast (Q00 e_w12 s10) (by rw [hd]) | exact (Q00 e_w12 s10)
  · first | exact Is.int (Q00 e_w12 s11) (by rw [hd]) | exact (Q00 e_w12 s11)
 intro a15 w15 hI
 clear e_w
 clear e_w10
 clear e_w12
 clear hr; obtain ⟨δ, hr, hs, e_w, nd9, u9, u10, u11⟩ := hI
 revert s0; refine kp1 hs rfl ?_; intro s0
 clear s2 s5 s9 s11 s10 s33
 have s9 := u9; clear u9
 have s10 := u10; clear u10
 have s11 := u11; clear u11
 clear hs
 refine sq ?_
 refine sq ?_
 refine Q05 101 [[(11, none)], [(41, some 0)]] [?b19_0, ?b19_1] Q0a hr ?t19 ?o19 ?_
 case o19 =>
  apply oc0; intro A W hx hf
  exact Q01 (a0 := a15) (r0 hf)
  apply oc0; intro A W hx hf
  exact Q2e (p1 s11 hx (q0 ?b19_0 A W 41 hf)) (ec A (.int .i64 0))
  exact onn
 case t19 => exact inferInstance
 clear hr; intro a20 w20 x hr hd hs
 revert s10; revert s9; revert s0; refine kp3 hs rfl ?_; intro s0 s9 s10
 clear s11
 have s42 := fa ?b19_1 a20 w20 42 (hd 1 42 rfl)
 replace e_w := e_w.trans x
 have e_w15 := x; clear hd hs x
 refine et ?_
 refine wp_cond_split (show _ = _ from s42) (fun he => ?_) (fun he => ?_)
 ·
  have he : (natR l Sa n dst).2 ≠ 0 := by simpa using he
  have hno := Qm7 he
  refine sq ?_
  refine Q05 101 [[(10, none)], [(43, some 0)], [(44, some 1)], [(45, some 2)]] [?b22_0, ?b22_1, ?b22_2, ?b22_2] Q0a hr ?t22 ?o22 ?_
  case o22 =>
   apply oc0; intro A W hx hf
   exact Q01 (a0 := a20) (r0 hf)
   apply oc0; intro A W hx hf
   exact Q0x tu22 (OwnBA.bs (p2 s10 e_w15 hx (q0 ?b22_0 A W 43 hf)))
   apply oc0; intro A W hx hf
   exact Q1a (q0 ?b22_1 A W 44 hf) (ec A (.int .i64 0))
   apply oc0; intro A W hx hf
   exact Q03 (q0 ?b22_2 A W 45 hf)
   exact onn
  case t22 => exact inferInstance
  clear hr; intro a23 w23 x hr hd hs
  clear s0 s9 s10 s42
  have s8 := fa ?b22_2 a23 w23 8 (hd 3 8 rfl)
  replace e_w := e_w.trans x
  clear e_w15; clear hd hs x
  refine et ?_
  refine wp_ret ?_
  refine Q0f ?_
  refine Q10 Try.results5 hr e_w ?_
  first | with_reducible exact s8 | exact Is.bool s8 (by rw [hno]; rfl) | exact Is.bool s8 (by rw [hrt]; exact beq_self_eq_true _)
 have he : (natR l Sa n dst).2 = 0 := by simpa using he
 have hok := Qjb he
 have P := Qaj hok
 have b := Q7q P.fine
 have hbl := b.len
 have h14 := b.a14
 obtain ⟨fk, fn, fs, fe, ft⟩ := Q6b P.fine
 have hy := (Q5t (dst := dst) hok).1
 replace s10 := OwnBA.cast s10 (show _ = natX l Sa n dst from by rw [hy])
 have rd := Qco (dst := dst) P b hA
 have ln1 := Q57 (n := n) (dst := dst) b hA
 have hrt := Qjc (dst := dst) P b hA
 have hpP := Qf8 (dst := dst) P b hA
 have hpl := Q6k (dst := dst) P b hA
 have hpo := Qac (dst := dst) P b hA
 have hsg := b.seg
 have heK : Q0d l = natK l := P.eq.trans (Qgt P.fine)
 replace s9 := PxS.cast s9 (show _ = pktF (natK l) from by rw [heK])
 have hTk : Q7u (natT (Q2p l) Sa n dst) := Qjd (Q9f l) hA
 refine wp_skip ?_
 refine es ?_
 refine Q04 (l := [_, _, _]) (rest := [_]) 101 [[(10, none)], [(46, some 0)], []] [?b24_0, ?b24_1, ?b24_2] hr ?t24 ?o24 ?_
 case o24 =>
  apply oc0; intro A W hx hf
  exact Q01 (a0 := a20) (r0 hf)
  apply oc0; intro A W hx hf
  exact Q1c Qby (Q6a (OwnBA.bs (p2 s10 e_w15 hx (q0 ?b24_0 A W 46 hf))) (by omega))
  apply oc0; intro A W hx hf
  exact Q0u (pktF (give 0)) [1, 1, 16, 1, 16, 1, 1, 1, 1, 1, 1, 1] Q60 (by rfl) (by rfl) hx.size
  exact onn
 case t24 => exact inferInstance
 clear hr; intro a25 w25 x hr hd hs
 have z_w_w20 := e_w.size
 have z_w15_w20 := e_w15.size
 have l25_9 := PxS.lt (Q00 e_w15 s9)
 have l25_10 := OwnBA.lt (Q00 e_w15 s10)
 revert s10; revert s9; revert s0; refine kp3 hs rfl ?_; intro s0 s9 s10
 clear s42
 have s47 := fa ?b24_1 a25 w25 47 (hd 1 47 rfl)
 have s12 := fa ?b24_2 a25 w25 12 (hd 2 12 rfl)
 obtain ⟨g25_12, q25_12⟩ := PxN.at s12; clear s12; have n25_12 := PxS.lt q25_12
 replace q25_12 := PxS.mono q25_12 e_w.size
 have s12 := q25_12; clear q25_12
 replace e_w := e_w.trans x
 replace e_w15 := e_w15.trans x; clear hd hs x
 have z26 := PxS.lt s12
 have l26 := (show (g25_12 = 0 ∨ w.heap.size < g25_12) ∧ True from ⟨by omega, trivial⟩)
 have l26_9 := PxS.lt (Q00 e_w15 s9)
 have l26_10 := OwnBA.lt (Q00 e_w15 s10)
 refine Q15 (pktF { natK l with tup := natT (Q2p l) Sa n dst }) hr Q2g s12 (Is.conv s47 (show _ = Value.agg (pktF { natK l with tup := natT (Q2p l) Sa n dst }).flatten.toArray from by rw [rd, heK, Q8h]; rfl)) (by exact Q45 hTk) (by exact Q7h) rfl ?_; clear hr; intro a26 w26 hc hu hr hs
 have hb : Below w.heap.size w25 w26 := hc.below e_w.size l26.1
 revert s12; revert s10; revert s9; revert s0; refine kp4 hs rfl ?_; intro s0 s9 s10 s12
 clear s47
 replace s9 := PxS.other (Q00 e_w15 s9) hc (by omega)
 replace s10 := OwnBA.other (Q00 e_w15 s10) hc (by omega)
 replace s12 := hu _ _ _ s12
 try simp only [List.set_cons_zero, List.set_cons_succ, pktF, tupS] at s12
 replace e_w := e_w.below (Nat.le_refl _) hb
 clear e_w15
 clear hu hs hc hb
 refine wpList_nil ?_
 refine es ?_
 refine sq ?_
 refine Q05 101 [[(9, none)], [(48, some 0)], [(49, some 1)], [(50, some 2)], [(12, none), (51, some 3)], [(52, some 4), (51, some 3)], [(53, some 5), (51, some 3)], [(51, some 3), (54, some 6)], [(55, some 7)], [(12, none), (56, some 8)], [(57, some 9), (56, some 8)], [(9, none), (56, some 8)], [(59, some 11), (56, some 8)], [(58, some 10), (60, some 12), (56, some 8)], [(56, some 8), (61, some 13)], [(62, some 14)], [(12, none), (63, some 15)], [(64, some 16), (63, some 15)], [(9, none), (63, some 15)], [(66, some 18), (63, some 15)], [(65, some 17), (67, some 19), (63, some 15)], [(63, some 15), (68, some 20)]] [?b27_0, ?b27_1, ?b27_2, ?b27_2, ?b27_4, ?b27_5, ?b27_6, ?b27_7, ?b27_7, ?b27_9, ?b27_10, ?b27_11, ?b27_12, ?b27_13, ?b27_14, ?b27_14, ?b27_16, ?b27_17, ?b27_18, ?b27_19, ?b27_20, ?b27_21] Q0a hr ?t27 ?o27 ?_
 case o27 =>
  apply oc0; intro A W hx hf
  exact Q02 0 tu37 (k := 0) rfl Q0l rfl (o1 s9 hx (r0 hf)) rfl
  apply oc0; intro A W hx hf
  exact Q09 tu3 rfl (q0 ?b27_0 A W 48 hf) rfl
  apply oc0; intro A W hx hf
  exact Q2e (q0 ?b27_1 A W 49 hf) (ec A (.int .i64 0))
  apply oc0; intro A W hx hf
  exact Q0i (q0 ?b27_2 A W 50 hf)
  refine ocg 51 ?_ (fun A W hx hf => ?_) ?_
  rfl
  exact gd_f (q1 ?b27_2 A W 51 hf) (fun hc => Q02 0 tu37 (k := 0) rfl Q0l rfl (o1 s12 hx (r0 hf)) rfl)
  refine ocg 51 ?_ (fun A W hx hf => ?_) ?_
  rfl
  exact gd_f (q1 ?b27_2 A W 51 hf) (fun hc => Q09 tu3 rfl (G.get (q0 ?b27_4 A W 52 hf) hc) rfl)
  refine ocg 51 ?_ (fun A W hx hf => ?_) ?_
  rfl
  exact gd_f (q1 ?b27_2 A W 51 hf) (fun hc => Q2e (G.get (q0 ?b27_5 A W 53 hf) hc) (ec A (.int .i64 0)))
  apply oc0; intro A W hx hf
  exact Q36 (q0 ?b27_2 A W 51 hf) (q1 ?b27_6 A W 54 hf)
  apply oc0; intro A W hx hf
  exact Q0i (q0 ?b27_7 A W 55 hf)
  refine ocg 56 ?_ (fun A W hx hf => ?_) ?_
  rfl
  exact gd_f (q1 ?b27_7 A W 56 hf) (fun hc => Q02 10 tu37 (k := 4) rfl Q0l rfl (o1 s12 hx (r0 hf)) rfl)
  refine ocg 56 ?_ (fun A W hx hf => ?_) ?_
  rfl
  exact gd_f (q1 ?b27_7 A W 56 hf) (fun hc => Q09 tu3 rfl (G.get (q0 ?b27_9 A W 57 hf) hc) rfl)
  refine ocg 56 ?_ (fun A W hx hf => ?_) ?_
  rfl
  exact gd_f (q1 ?b27_7 A W 56 hf) (fun hc => Q02 10 tu37 (k := 4) rfl Q0l rfl (o1 s9 hx (r0 hf)) rfl)
  refine ocg 56 ?_ (fun A W hx hf => ?_) ?_
  rfl
  exact gd_f (q1 ?b27_7 A W 56 hf) (fun hc => Q09 tu3 rfl (G.get (q0 ?b27_11 A W 59 hf) hc) rfl)
  refine ocg 56 ?_ (fun A W hx hf => ?_) ?_
  rfl
  exact gd_f (q2 ?b27_7 A W 56 hf) (fun hc => Q2e (G.get (q0 ?b27_10 A W 58 hf) hc) (G.get (q1 ?b27_12 A W 60 hf) hc))
  apply oc0; intro A W hx hf
  exact Q36 (q0 ?b27_7 A W 56 hf) (q1 ?b27_13 A W 61 hf)
  apply oc0; intro A W hx hf
  exact Q0i (q0 ?b27_14 A W 62 hf)
  refine ocg 63 ?_ (fun A W hx hf => ?_) ?_
  rfl
  exact gd_f (q1 ?b27_14 A W 63 hf) (fun hc => Q02 11 tu37 (k := 5) rfl Q0l rfl (o1 s12 hx (r0 hf)) rfl)
  refine ocg 63 ?_ (fun A W hx hf => ?_) ?_
  rfl
  exact gd_f (q1 ?b27_14 A W 63 hf) (fun hc => Q09 tu3 rfl (G.get (q0 ?b27_16 A W 64 hf) hc) rfl)
  refine ocg 63 ?_ (fun A W hx hf => ?_) ?_
  rfl
  exact gd_f (q1 ?b27_14 A W 63 hf) (fun hc => Q02 11 tu37 (k := 5) rfl Q0l rfl (o1 s9 hx (r0 hf)) rfl)
  refine ocg 63 ?_ (fun A W hx hf => ?_) ?_
  rfl
  exact gd_f (q1 ?b27_14 A W 63 hf) (fun hc => Q09 tu3 rfl (G.get (q0 ?b27_18 A W 66 hf) hc) rfl)
  refine ocg 63 ?_ (fun A W hx hf => ?_) ?_
  rfl
  exact gd_f (q2 ?b27_14 A W 63 hf) (fun hc => Q2e (G.get (q0 ?b27_17 A W 65 hf) hc) (G.get (q1 ?b27_19 A W 67 hf) hc))
  apply oc0; intro A W hx hf
  exact Q36 (q0 ?b27_14 A W 63 hf) (q1 ?b27_20 A W 68 hf)
  exact onn
 case t27 => exact inferInstance
 clear hr; intro a28 w28 x hr hd hs
 revert s12; revert s10; revert s9; revert s0; refine kp4 hs rfl ?_; intro s0 s9 s10 s12
 have s69 := fa ?b27_21 a28 w28 69 (hd 21 69 rfl)
 replace e_w := e_w.trans x
 have e_w26 := x; clear hd hs x
 refine et ?_
 refine wp_cond_split (show _ = _ from s69) (fun hd9 => ?_) (fun hd9 => ?_)
 ·
  exfalso; simp [natK] at hd9
 try simp only [decide_eq_true_eq, decide_eq_false_iff_not, Bool.not_eq_true', Bool.not_eq_false', Bool.not_true, Bool.not_false, Bool.and_eq_true, Bool.and_eq_false_iff, Bool.or_eq_true, Bool.or_eq_false_iff, bne_iff_ne, beq_iff_eq, ne_eq, beq_eq_false_iff_ne, bne_eq_false_iff_eq] at hd9
 refine wp_skip ?_
 refine es ?_
 refine Q04 (l := [_, _, _]) (rest := [_]) 101 [[(9, none)], [(70, some 0)], []] [?b30_0, ?b30_1, ?b30_2] hr ?t30 ?o30 ?_
 case o30 =>
  apply oc0; intro A W hx hf
  exact Q02 1 tu37 (k := 1) rfl Q1y rfl (o2 s9 e_w26 hx (r0 hf)) rfl
  apply oc0; intro A W hx hf
  exact Q0c 8 tu35 rfl Q1y (q0 ?b30_0 A W 70 hf) rfl
  apply oc0; intro A W hx hf
  exact Q0u (tupS tup0) [1, 16, 1, 16, 1, 1, 1] Q9g (by rfl) (by rfl) hx.size
  exact onn
 case t30 => exact inferInstance
 clear hr; intro a31 w31 x hr hd hs
 have z_w_w28 := e_w.size
 have z_w26_w28 := e_w26.size
 have l31_9 := PxS.lt (Q00 e_w26 s9)
 have l31_10 := OwnBA.lt (Q00 e_w26 s10)
 have l31_12 := PxS.lt (Q00 e_w26 s12)
 revert s12; revert s10; revert s9; revert s0; refine kp4 hs rfl ?_; intro s0 s9 s10 s12
 clear s69
 have s71 := fa ?b30_1 a31 w31 71 (hd 1 71 rfl)
 have s13 := fa ?b30_2 a31 w31 13 (hd 2 13 rfl)
 obtain ⟨g31_13, q31_13⟩ := PxN.at s13; clear s13; have n31_13 := PxS.lt q31_13
 replace q31_13 := PxS.mono q31_13 e_w.size
 have s13 := q31_13; clear q31_13
 replace e_w := e_w.trans x
 replace e_w26 := e_w26.trans x; clear hd hs x
 have z32 := PxS.lt s13
 have l32 := (show (g31_13 = 0 ∨ w.heap.size < g31_13) ∧ True from ⟨by omega, trivial⟩)
 have l32_9 := PxS.lt (Q00 e_w26 s9)
 have l32_10 := OwnBA.lt (Q00 e_w26 s10)
 have l32_12 := PxS.lt (Q00 e_w26 s12)
 refine Q15 (tupS (Q2p l)) hr Q1y s13 (Is.conv s71 (show _ = Value.agg (tupS (Q2p l)).flatten.toArray from rfl)) (by exact Q46 (Q9f l)) (by exact Q6l) rfl ?_; clear hr; intro a32 w32 hc hu hr hs
 have hb : Below w.heap.size w31 w32 := hc.below e_w.size l32.1
 revert s13; revert s12; revert s10; revert s9; revert s0; refine kp5 hs rfl ?_; intro s0 s9 s10 s12 s13
 clear s71
 replace s9 := PxS.other (Q00 e_w26 s9) hc (by omega)
 replace s10 := OwnBA.other (Q00 e_w26 s10) hc (by omega)
 replace s12 := PxS.other (Q00 e_w26 s12) hc (by omega)
 replace s13 := hu _ _ _ s13
 try simp only [List.set_cons_zero, List.set_cons_succ, pktF, tupS] at s13
 replace e_w := e_w.below (Nat.le_refl _) hb
 clear e_w26
 clear hu hs hc hb
 refine wpList_nil ?_
 refine es ?_
 refine Q04 (l := [_, _, _]) (rest := [_]) 101 [[(12, none)], [(72, some 0)], []] [?b33_0, ?b33_1, ?b33_2] hr ?t33 ?o33 ?_
 case o33 =>
  apply oc0; intro A W hx hf
  exact Q02 1 tu37 (k := 1) rfl Q1y rfl (o1 s12 hx (r0 hf)) rfl
  apply oc0; intro A W hx hf
  exact Q0c 8 tu35 rfl Q1y (q0 ?b33_0 A W 72 hf) rfl
  apply oc0; intro A W hx hf
  exact Q0u (tupS tup0) [1, 16, 1, 16, 1, 1, 1] Q9g (by rfl) (by rfl) hx.size
  exact onn
 case t33 => exact inferInstance
 clear hr; intro a34 w34 x hr hd hs
 have z_w_w32 := e_w.size
 have l34_9 := PxS.lt s9
 have l34_10 := OwnBA.lt s10
 have l34_12 := PxS.lt s12
 have l34_13 := PxS.lt s13
 revert s13; revert s12; revert s10; revert s9; revert s0; refine kp5 hs rfl ?_; intro s0 s9 s10 s12 s13
 have s73 := fa ?b33_1 a34 w34 73 (hd 1 73 rfl)
 have s14 := fa ?b33_2 a34 w34 14 (hd 2 14 rfl)
 obtain ⟨g34_14, q34_14⟩ := PxN.at s14; clear s14; have n34_14 := PxS.lt q34_14
 replace q34_14 := PxS.mono q34_14 e_w.size
 have s14 := q34_14; clear q34_14
 replace e_w := e_w.trans x
 have e_w32 := x; clear hd hs x
 have z35 := PxS.lt s14
 have l35 := (show (g34_14 = 0 ∨ w.heap.size < g34_14) ∧ True from ⟨by omega, trivial⟩)
 have l35_9 := PxS.lt (Q00 e_w32 s9)
 have l35_10 := OwnBA.lt (Q00 e_w32 s10)
 have l35_12 := PxS.lt (Q00 e_w32 s12)
 have l35_13 := PxS.lt (Q00 e_w32 s13)
 refine Q15 (tupS (natT (Q2p l) Sa n dst)) hr Q1y s14 (Is.conv s73 (show _ = Value.agg (tupS (natT (Q2p l) Sa n dst)).flatten.toArray from rfl)) (by exact Q46 hTk) (by exact Q6l) rfl ?_; clear hr; intro a35 w35 hc hu hr hs
 have hb : Below w.heap.size w34 w35 := hc.below e_w.size l35.1
 revert s14; revert s13; revert s12; revert s10; revert s9; revert s0; refine kp6 hs rfl ?_; intro s0 s9 s10 s12 s13 s14
 clear s73
 replace s9 := PxS.other (Q00 e_w32 s9) hc (by omega)
 replace s10 := OwnBA.other (Q00 e_w32 s10) hc (by omega)
 replace s12 := PxS.other (Q00 e_w32 s12) hc (by omega)
 replace s13 := PxS.other (Q00 e_w32 s13) hc (by omega)
 replace s14 := hu _ _ _ s14
 try simp only [List.set_cons_zero, List.set_cons_succ, pktF, tupS] at s14
 replace e_w := e_w.below (Nat.le_refl _) hb
 clear e_w32
 clear hu hs hc hb
 refine wpList_nil ?_
 refine es ?_
 refine Q05 101 [[(13, none)], [(74, some 0)], [(13, none)], [(76, some 2)], [(13, none)], [(78, some 4)], [(0, none)], [(9, none)], [(81, some 7)], [(9, none)], [(83, some 9)], [(80, some 6), (82, some 8), (84, some 10)], [(75, some 1), (77, some 3), (79, some 5), (85, some 11)], [(14, none)], [(87, some 13)], [(14, none)], [(89, some 15)], [(14, none)], [(91, some 17)], [(10, none)], [(12, none)], [(94, some 20)], [(12, none)], [(96, some 22)], [(93, some 19), (95, some 21), (97, some 23)], [(88, some 14), (90, some 16), (92, some 18), (98, some 24)], [(86, some 12), (99, some 25)], [(100, some 26)]] [?b36_0, ?b36_1, ?b36_2, ?b36_3, ?b36_4, ?b36_5, ?b36_6, ?b36_7, ?b36_8, ?b36_9, ?b36_10, ?b36_11, ?b36_12, ?b36_13, ?b36_14, ?b36_15, ?b36_16, ?b36_17, ?b36_18, ?b36_19, ?b36_20, ?b36_21, ?b36_22, ?b36_23, ?b36_24, ?b36_25, ?b36_26, ?b36_26] Q0a hr ?t36 ?o36 ?_
 case o36 =>
  apply oc0; intro A W hx hf
  exact Q02 0 tu35 (k := 0) rfl Q0v rfl (o1 s13 hx (r0 hf)) rfl
  apply oc0; intro A W hx hf
  exact Q0c 2 tu25 rfl Q0v (q0 ?b36_0 A W 74 hf) rfl
  apply oc0; intro A W hx hf
  exact Q02 2 tu35 (k := 1) rfl Q0v rfl (o1 s13 hx (r0 hf)) rfl
  apply oc0; intro A W hx hf
  exact Q0c 4 tu25 rfl Q0v (q0 ?b36_2 A W 76 hf) rfl
  apply oc0; intro A W hx hf
  exact Q02 4 tu35 (k := 2) rfl Q0l rfl (o1 s13 hx (r0 hf)) rfl
  apply oc0; intro A W hx hf
  exact Q09 tu3 rfl (q0 ?b36_4 A W 78 hf) rfl
  apply oc0; intro A W hx hf
  exact Q01 (a0 := a35) (r0 hf)
  apply oc0; intro A W hx hf
  exact Q02 10 tu37 (k := 4) rfl Q0l rfl (o1 s9 hx (r0 hf)) rfl
  apply oc0; intro A W hx hf
  exact Q09 tu3 rfl (q0 ?b36_7 A W 81 hf) rfl
  apply oc0; intro A W hx hf
  exact Q02 11 tu37 (k := 5) rfl Q0l rfl (o1 s9 hx (r0 hf)) rfl
  apply oc0; intro A W hx hf
  exact Q09 tu3 rfl (q0 ?b36_9 A W 83 hf) rfl
  apply oc0; intro A W hx hf
  exact Q5s (Q21 l) (endP l) tu22 Q0t (sarg s0 (show _ = _ from (q0 ?b36_6 A W 80 hf))) (Is.int (q1 ?b36_8 A W 82 hf) (by rfl)) (Is.int (q2 ?b36_10 A W 84 hf) (by rfl)) (by omega) (by omega)
  apply oc0; intro A W hx hf
  exact Q44 Qje (Q9h (Is.conv (q0 ?b36_1 A W 75 hf) (show _ = AdrV (Q2p l).src from Q1d _)) (Is.conv (q1 ?b36_3 A W 77 hf) (show _ = AdrV (Q2p l).dst from Q1d _)) (q2 ?b36_5 A W 79 hf) (AtW.now (q3 ?b36_11 A W 85 hf) (e_w.trans hx)) (by exact (Q9f l).1) (by exact (Q9f l).2) (by exact P.fine.po) (by show (pkP l).length ≤ 65535; omega))
  apply oc0; intro A W hx hf
  exact Q02 0 tu35 (k := 0) rfl Q0v rfl (o1 s14 hx (r0 hf)) rfl
  apply oc0; intro A W hx hf
  exact Q0c 2 tu25 rfl Q0v (q0 ?b36_13 A W 87 hf) rfl
  apply oc0; intro A W hx hf
  exact Q02 2 tu35 (k := 1) rfl Q0v rfl (o1 s14 hx (r0 hf)) rfl
  apply oc0; intro A W hx hf
  exact Q0c 4 tu25 rfl Q0v (q0 ?b36_15 A W 89 hf) rfl
  apply oc0; intro A W hx hf
  exact Q02 4 tu35 (k := 2) rfl Q0l rfl (o1 s14 hx (r0 hf)) rfl
  apply oc0; intro A W hx hf
  exact Q09 tu3 rfl (q0 ?b36_17 A W 91 hf) rfl
  apply oc0; intro A W hx hf
  exact Q01 (a0 := a35) (r0 hf)
  apply oc0; intro A W hx hf
  exact Q02 10 tu37 (k := 4) rfl Q0l rfl (o1 s12 hx (r0 hf)) rfl
  apply oc0; intro A W hx hf
  exact Q09 tu3 rfl (q0 ?b36_20 A W 94 hf) rfl
  apply oc0; intro A W hx hf
  exact Q02 11 tu37 (k := 5) rfl Q0l rfl (o1 s12 hx (r0 hf)) rfl
  apply oc0; intro A W hx hf
  exact Q09 tu3 rfl (q0 ?b36_22 A W 96 hf) rfl
  apply oc0; intro A W hx hf
  exact Q2z (Q21 l) (endP l) tu22 Q0t (OwnBA.bs (p1 s10 hx (q0 ?b36_19 A W 93 hf))) (Is.int (q1 ?b36_21 A W 95 hf) (by rfl)) (Is.int (q2 ?b36_23 A W 97 hf) (by rfl)) (by omega) (by omega)
  apply oc0; intro A W hx hf
  exact Q44 Qje (Q9h (Is.conv (q0 ?b36_14 A W 88 hf) (show _ = AdrV (natT (Q2p l) Sa n dst).src from Q1d _)) (Is.conv (q1 ?b36_16 A W 90 hf) (show _ = AdrV (natT (Q2p l) Sa n dst).dst from Q1d _)) (Is.int (q2 ?b36_18 A W 92 hf) (show _ = (pkN l).1.proto from Qi1)) (Bs.cast (q3 ?b36_24 A W 98 hf) hpP.symm) (by exact hTk.1) (by exact hTk.2) (by rw [hpo]) (by omega))
  apply oc0; intro A W hx hf
  exact Qj4 tu4 (q0 ?b36_12 A W 86 hf) (q1 ?b36_25 A W 99 hf)
  apply oc0; intro A W hx hf
  exact Q03 (q0 ?b36_26 A W 100 hf)
  exact onn
 case t36 => repeat (first | exact Q5z | refine Q4q ?_)
 clear hr; intro a37 w37 x hr hd hs
 clear s0 s9 s10 s12 s13 s14
 have s8 := fa ?b36_26 a37 w37 8 (hd 27 8 rfl)
 replace e_w := e_w.trans x; clear hd hs x
 refine et ?_
 refine wp_ret ?_
 refine Q10 Try.results5 hr e_w ?_
 first | with_reducible exact s8 | exact Is.bool s8 (by rw [hno]; rfl) | exact Is.bool s8 (by rw [hrt]; exact beq_self_eq_true _)

end Go.Proofs.Ytlmdboaghojgiaa
