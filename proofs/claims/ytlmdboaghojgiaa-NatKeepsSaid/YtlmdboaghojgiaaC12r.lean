import Derived.Test.YtlmdboaghojgiaaC12b
import Derived.Test.YtlmdboaghojgiaaC06d
import Derived.Test.YtlmdboaghojgiaaC11r
import Derived.Test.YtlmdboaghojgiaaC11
import Derived.Test.YtlmdboaghojgiaaS12V
namespace Go.Proofs.Ytlmdboaghojgiaa
open Go.RowKit
set_option linter.unusedVariables false
set_option linter.unusedSimpArgs false
set_option maxRecDepth 4000
theorem Qn3 {x0 x1 : Value} {w : World} {s9 : Bool} {Sa : Adr} (h0 : (Is (.bool s9)) x0 w) (h1 : (Is (AdrV Sa)) x1 w) (hA : Sa.b.length = 16) :
    Calls Try.prog 15 #[x0, x1] w (Ret (Is (.bool (ofB s9 Sa))) w) := by
 refine enter Try.func15 rfl Try.ntmps15 (k := 2) rfl (by decide) (fun a0 hr hargs => ?_)
 have s0 := sarg h0 (hargs 0 (by decide))
 have s1 := sarg h1 (hargs 1 (by decide))
 clear hargs
 refine sq ?_
 refine Q04 16 [[(1, none)], []] [?b1_0, ?b1_1] Q07 hr ?t1 ?o1 ?_
 case o1 =>
  apply oc0; intro A W hx hf
  exact Q2i [[.bool Sa.six], Sa.b.map Q0z] [1, 16] (Is.conv (o1 s1 hx (r0 hf)) (Q1x Sa).symm) (by simp [*]) hx.size
  apply oc0; intro A W hx hf
  exact Q06
  exact onn
 case t1 => exact inferInstance
 clear hr; intro a2 w2 x hr hd hs
 revert s0; refine kp1 hs rfl ?_; intro s0
 clear s1
 have s3 := fa ?b1_0 a2 w2 3 (hd 0 3 rfl)
 obtain ⟨g2_3, q2_3⟩ := PxN.at s3; clear s3; have n2_3 := PxS.lt q2_3
 have s3 := q2_3; clear q2_3
 have e_w := x; clear hd hs x
 refine es ?_
 refine Q04 16 [[(3, none)], [(5, some 0)], [(0, none)], [(6, some 1), (7, some 2)], [(8, some 3)], [(0, none), (9, some 4)], [(10, some 5), (9, some 4)], [(3, none), (11, some 6)], [(12, some 7), (11, some 6)], [(11, some 6), (13, some 8), (9, some 4)], [(9, some 4), (14, some 9)], [(15, some 10)]] [?b3_0, ?b3_1, ?b3_2, ?b3_3, ?b3_3, ?b3_5, ?b3_5, ?b3_7, ?b3_8, ?b3_9, ?b3_10, ?b3_10] Q07 hr ?t3 ?o3 ?_
 case o3 =>
  apply oc0; intro A W hx hf
  exact Q02 0 tu25 (k := 0) rfl Q4o rfl (o1 s3 hx (r0 hf)) rfl
  apply oc0; intro A W hx hf
  exact Q09 tu4 rfl (q0 ?b3_0 A W 5 hf) rfl
  apply oc0; intro A W hx hf
  exact Q01 (a0 := a2) (r0 hf)
  apply oc0; intro A W hx hf
  exact Ql0 tu4 (q0 ?b3_1 A W 6 hf) (p2 s0 e_w hx (q1 ?b3_2 A W 7 hf))
  apply oc0; intro A W hx hf
  exact Q0p (q0 ?b3_3 A W 8 hf)
  refine ocg 9 ?_ (fun A W hx hf => ?_) ?_
  rfl
  exact gd_t (q1 ?b3_3 A W 9 hf) (fun hc => Q01 (a0 := a2) (r0 hf))
  refine ocg 9 ?_ (fun A W hx hf => ?_) ?_
  rfl
  exact gd_t (q1 ?b3_3 A W 9 hf) (fun hc => Q0p (G.get (q0 ?b3_5 A W 10 hf) hc))
  refine ocg 11 ?_ (fun A W hx hf => ?_) ?_
  rfl
  exact Q4w (G.al (Q00 (e_w.trans hx) s0) (q1 ?b3_5 A W 11 hf)) (fun hc => Q0j 2 tu25 rfl Q16 (o1 s3 hx (r0 hf)) rfl)
  refine ocg 11 ?_ (fun A W hx hf => ?_) ?_
  rfl
  exact Q4w (G.al (Q00 (e_w.trans hx) s0) (q1 ?b3_5 A W 11 hf)) (fun hc => Q1d Qo4 (Qhv (Is.conv (G.get (q0 ?b3_7 A W 12 hf) hc) (Q1x Sa)) (by exact hA)))
  refine ocg 9 ?_ (fun A W hx hf => ?_) ?_
  rfl
  exact gd_t (q2 ?b3_3 A W 9 hf) (fun hc => Q4k (p2 s0 e_w hx (G.get (q0 ?b3_5 A W 11 hf) hc)) (G.strip hc (q1 ?b3_8 A W 13 hf)))
  apply oc0; intro A W hx hf
  exact Q2s (q0 ?b3_3 A W 9 hf) (q1 ?b3_9 A W 14 hf)
  apply oc0; intro A W hx hf
  exact Q03 (q0 ?b3_10 A W 15 hf)
  exact onn
 case t3 => exact inferInstance
 clear hr; intro a4 w4 x hr hd hs
 clear s0 s3
 have s4 := fa ?b3_10 a4 w4 4 (hd 11 4 rfl)
 replace e_w := e_w.trans x; clear hd hs x
 refine et ?_
 refine wp_ret ?_
 refine Q14 Try.results15 hr e_w ?_
 exact Is.bool s4 rfl

def Q5w : List Tmp := [13, 14, 56, 57, 58]
def Q5x : List Tmp := [14, 15, 62, 63, 64, 65, 66, 67]
def Q8p : List Tmp := [17, 18, 76, 77, 78, 79, 80, 81, 82, 83, 84, 85, 86, 87, 88, 89, 90, 91, 92, 93, 94, 95, 96]
def Q5y : List Tmp := [19, 20, 112, 113, 114, 115, 116, 117, 118, 119, 120, 121, 122, 123, 124, 125, 126, 127, 128, 129, 130, 131, 132, 133, 134, 135, 136, 137, 138, 139, 140, 141, 142, 143]
def Q5z : List Tmp := [22]
set_option maxHeartbeats 2000000 in
theorem Qc0 {x0 x1 x2 x3 : Value} {w : World} {l : List UInt8} {Sa : Adr} {n : Int} {dst : Bool} {B : Nat} (h0 : (Bs l) x0 w) (h1 : (Is (AdrV Sa)) x1 w) (h2 : (Is (.int .i64 n)) x2 w) (h3 : (Is (.bool dst)) x3 w) (hA : Sa.b.length = 16) (hl9 : l.length ≤ 900000) (hB : B ≤ w.heap.size) :
    Calls Try.prog 12 #[x0, x1, x2, x3] w (Ret (Tup2 (OwnB B 5 (Qcl l Sa n dst).1) (Is (.bool (Qcl l Sa n dst).2))) w) := by
 have hlen := Bs.len_le h0
 refine enter Try.func12 rfl Try.ntmps12 (k := 4) rfl (by decide) (fun a0 hr hargs => ?_)
 have s0 := sarg h0 (hargs 0 (by decide))
 have s1 := sarg h1 (hargs 1 (by decide))
 have s2 := sarg h2 (hargs 2 (by decide))
 have s3 := sarg h3 (hargs 3 (by decide))
 clear hargs
 refine sq ?_
 refine Q04 218 [[(1, none)], [], []] [?b1_0, ?b1_1, ?b1_2] Q07 hr ?t1 ?o1 ?_
 case o1 =>
  apply oc0; intro A W hx hf
  exact Q2i [[.bool Sa.six], Sa.b.map Q0z] [1, 16] (Is.conv (o1 s1 hx (r0 hf)) (Q1x Sa).symm) (by simp [*]) hx.size
  apply oc0; intro A W hx hf
  exact Q1j (OwnBA 0 w.heap.size 5 []) (fun _ => Q24)
  apply oc0; intro A W hx hf
  exact Q06
  exact onn
 case t1 => exact inferInstance
 clear hr; intro a2 w2 x hr hd hs
 revert s3; revert s2; revert s0; refine kp3 hs rfl ?_; intro s0 s2 s3
 clear s1
 have s5 := fa ?b1_0 a2 w2 5 (hd 0 5 rfl)
 obtain ⟨g2_5, q2_5⟩ := PxN.at s5; clear s5; have n2_5 := PxS.lt q2_5
 have s5 := q2_5; clear q2_5
 have e_w := x; clear hd hs x
 refine es ?_
 refine Q05 (l := [_, _, _]) (rest := [_]) 218 [[(0, none)], [(23, some 0)], []] [?b3_0, ?b3_1, ?b3_2] hr ?t3 ?o3 ?_
 case o3 =>
  apply oc0; intro A W hx hf
  exact Q01 (a0 := a2) (r0 hf)
  apply oc0; intro A W hx hf
  exact Q1d Qnz (Qjl (p2 s0 e_w hx (q0 ?b3_0 A W 23 hf)) (by omega))
  apply oc0; intro A W hx hf
  exact Q0v (pktF (give 0)) [1, 1, 16, 1, 16, 1, 1, 1, 1, 1, 1, 1] Qav (by rfl) (by rfl) hx.size
  exact onn
 case t3 => exact inferInstance
 clear hr; intro a4 w4 x hr hd hs
 have z_w_w2 := e_w.size
 have l4_5 := PxS.lt s5
 revert s5; revert s3; revert s2; revert s0; refine kp4 hs rfl ?_; intro s0 s2 s3 s5
 have s24 := fa ?b3_1 a4 w4 24 (hd 1 24 rfl)
 have s10 := fa ?b3_2 a4 w4 10 (hd 2 10 rfl)
 obtain ⟨g4_10, q4_10⟩ := PxN.at s10; clear s10; have n4_10 := PxS.lt q4_10
 replace q4_10 := PxS.mono q4_10 e_w.size
 have s10 := q4_10; clear q4_10
 replace e_w := e_w.trans x
 have e_w2 := x; clear hd hs x
 have z5 := PxS.lt s10
 have l5 := (show (g4_10 = 0 ∨ w.heap.size < g4_10) ∧ True from ⟨by omega, trivial⟩)
 have l5_5 := PxS.lt (Q00 e_w2 s5)
 refine Q19 (pktF (Q0y l)) hr Q35 s10 (Is.conv s24 (show _ = Value.agg (pktF (Q0y l)).flatten.toArray from (Qf4 _).symm)) (by exact Q92 (Qa8 _)) (by exact Qf5) rfl ?_; clear hr; intro a5 w5 hc hu hr hs
 have hb : Below w.heap.size w4 w5 := hc.below e_w.size l5.1
 revert s10; revert s5; revert s3; revert s2; revert s0; refine kp5 hs rfl ?_; intro s0 s2 s3 s5 s10
 clear s24
 replace s5 := PxS.other (Q00 e_w2 s5) hc (by omega)
 replace s10 := hu _ _ _ s10
 try simp only [List.set_cons_zero, List.set_cons_succ, pktF] at s10
 replace e_w := e_w.below (Nat.le_refl _) hb
 clear e_w2
 clear hu hs hc hb
 refine wpList_nil ?_
 refine es ?_
 refine Q04 218 [[(10, none)], [(25, some 0)], [(26, some 1)], [(27, some 2)], [(28, some 3)]] [?b6_0, ?b6_1, ?b6_2, ?b6_3, ?b6_3] Q07 hr ?t6 ?o6 ?_
 case o6 =>
  apply oc0; intro A W hx hf
  exact Q02 1 tu37 (k := 1) rfl Q3f rfl (o1 s10 hx (r0 hf)) rfl
  apply oc0; intro A W hx hf
  exact Q02 1 tu35 (k := 0) rfl Q16 rfl (q0 ?b6_0 A W 25 hf) rfl
  apply oc0; intro A W hx hf
  exact Q02 1 tu25 (k := 0) rfl Q4o rfl (q0 ?b6_1 A W 26 hf) rfl
  apply oc0; intro A W hx hf
  exact Q09 tu4 rfl (q0 ?b6_2 A W 27 hf) rfl
  apply oc0; intro A W hx hf
  exact Q03 (q0 ?b6_3 A W 28 hf)
  exact onn
 case t6 => exact inferInstance
 clear hr; intro a7 w7 x hr hd hs
 revert s10; revert s5; revert s3; revert s2; revert s0; refine kp5 hs rfl ?_; intro s0 s2 s3 s5 s10
 have s11 := fa ?b6_3 a7 w7 11 (hd 4 11 rfl)
 replace e_w := e_w.trans x
 have e_w5 := x; clear hd hs x
 refine es ?_
 refine sq ?_
 refine Q04 218 [[(10, none)], [(29, some 0)], [(30, some 1)], [(31, some 2)], [(11, none), (32, some 3)], [(5, none), (32, some 3)], [(33, some 4), (34, some 5), (32, some 3)], [(35, some 6), (32, some 3)], [(32, some 3), (36, some 7)], [(37, some 8)], [(2, none), (38, some 9)], [(39, some 10), (38, some 9)], [(38, some 9), (40, some 11)], [(41, some 12)], [(2, none), (42, some 13)], [(43, some 14), (42, some 13)], [(42, some 13), (44, some 15)]] [?b8_0, ?b8_1, ?b8_2, ?b8_2, ?b8_4, ?b8_5, ?b8_6, ?b8_7, ?b8_8, ?b8_8, ?b8_10, ?b8_11, ?b8_12, ?b8_12, ?b8_14, ?b8_15, ?b8_16] Q07 hr ?t8 ?o8 ?_
 case o8 =>
  apply oc0; intro A W hx hf
  exact Q02 0 tu37 (k := 0) rfl Q0k rfl (o2 s10 e_w5 hx (r0 hf)) rfl
  apply oc0; intro A W hx hf
  exact Q09 tu3 rfl (q0 ?b8_0 A W 29 hf) rfl
  apply oc0; intro A W hx hf
  exact Q2h (q0 ?b8_1 A W 30 hf) (ec A (.int .i64 0))
  apply oc0; intro A W hx hf
  exact Q0p (q0 ?b8_2 A W 31 hf)
  refine ocg 32 ?_ (fun A W hx hf => ?_) ?_
  rfl
  exact gd_f (q1 ?b8_2 A W 32 hf) (fun hc => Q01 (a0 := a7) (r0 hf))
  refine ocg 32 ?_ (fun A W hx hf => ?_) ?_
  rfl
  exact gd_f (q1 ?b8_2 A W 32 hf) (fun hc => Q0j 2 tu25 rfl Q16 (o2 s5 e_w5 hx (r0 hf)) rfl)
  refine ocg 32 ?_ (fun A W hx hf => ?_) ?_
  rfl
  exact gd_f (q2 ?b8_2 A W 32 hf) (fun hc => Q0t Qo0 (Qn3 (p1 s11 hx (G.get (q0 ?b8_4 A W 33 hf) hc)) (Is.conv (G.get (q1 ?b8_5 A W 34 hf) hc) (Q1x Sa)) (by exact hA)))
  refine ocg 32 ?_ (fun A W hx hf => ?_) ?_
  rfl
  exact gd_f (q1 ?b8_2 A W 32 hf) (fun hc => Q42 (G.get (q0 ?b8_6 A W 35 hf) hc))
  apply oc0; intro A W hx hf
  exact Q4k (q0 ?b8_2 A W 32 hf) (q1 ?b8_7 A W 36 hf)
  apply oc0; intro A W hx hf
  exact Q0p (q0 ?b8_8 A W 37 hf)
  refine ocg 38 ?_ (fun A W hx hf => ?_) ?_
  rfl
  exact gd_f (q1 ?b8_8 A W 38 hf) (fun hc => Q01 (a0 := a7) (r0 hf))
  refine ocg 38 ?_ (fun A W hx hf => ?_) ?_
  rfl
  exact gd_f (q1 ?b8_8 A W 38 hf) (fun hc => Q1e (p2 s2 e_w hx (G.get (q0 ?b8_10 A W 39 hf) hc)) (ec A (.int .i64 0)))
  apply oc0; intro A W hx hf
  exact Q4k (q0 ?b8_8 A W 38 hf) (q1 ?b8_11 A W 40 hf)
  apply oc0; intro A W hx hf
  exact Q0p (q0 ?b8_12 A W 41 hf)
  refine ocg 42 ?_ (fun A W hx hf => ?_) ?_
  rfl
  exact gd_f (q1 ?b8_12 A W 42 hf) (fun hc => Q01 (a0 := a7) (r0 hf))
  refine ocg 42 ?_ (fun A W hx hf => ?_) ?_
  rfl
  exact gd_f (q1 ?b8_12 A W 42 hf) (fun hc => Q4l (p2 s2 e_w hx (G.get (q0 ?b8_14 A W 43 hf) hc)) (ec A (.int .i64 65535)))
  apply oc0; intro A W hx hf
  exact Q4k (q0 ?b8_12 A W 42 hf) (q1 ?b8_15 A W 44 hf)
  exact onn
 case t8 => exact inferInstance
 clear hr; intro a9 w9 x hr hd hs
 revert s11; revert s10; revert s5; revert s3; revert s2; revert s0; refine kp6 hs rfl ?_; intro s0 s2 s3 s5 s10 s11
 have s45 := fa ?b8_16 a9 w9 45 (hd 16 45 rfl)
 replace e_w := e_w.trans x
 replace e_w5 := e_w5.trans x
 have e_w7 := x; clear hd hs x
 refine et ?_
 refine wp_cond_split (show _ = _ from s45) (fun hc9 => ?_) (fun hc9 => ?_)
 ·
  have hno := (Qhi (dst := dst) (Ql5 hc9)).2
  refine sq ?_
  refine Q04 218 [[], []] [?b11_0, ?b11_1] Q07 hr ?t11 ?o11 ?_
  case o11 =>
   apply oc0; intro A W hx hf
   exact Q1j (OwnBA 0 w.heap.size 5 []) (fun _ => Q24)
   apply oc0; intro A W hx hf
   exact Q06
   exact onn
  case t11 => exact inferInstance
  clear hr; intro a12 w12 x hr hd hs
  clear s0 s2 s3 s5 s10 s11 s45
  have s8 := fa ?b11_0 a12 w12 8 (hd 0 8 rfl)
  have s9 := fa ?b11_1 a12 w12 9 (hd 1 9 rfl)
  replace e_w := e_w.trans x
  clear e_w5
  clear e_w7; clear hd hs x
  refine et ?_
  refine wp_ret ?_
  refine Q0d ?_
  refine Q50 Try.results12 hr e_w ?_
  first | (rw [hno]; exact ⟨_, _, rfl, OwnB.mono s8.own hB, s9⟩) | (rw [hyes.2]; exact ⟨_, _, rfl, OwnB.mono s8.own hB, s9⟩)
 have hok := Ql6 hc9
 have P := Ql7 hok
 have b := Ql8 P.fine
 have hyes := (Qf6 (dst := dst) hok)
 obtain ⟨np1, np2, np3, np4, np5, np6, np7, np8, np9, np10⟩ := Q3g (dst := dst) b
 have hbl := b.len
 have h14 := b.a14
 have hfl := Q5m (l := l) hA
 have hsz := Qhj (Q1v l)
 have hal := Q6l (n := n) (dst := dst) b hA
 have hbl2 := Qf7 (n := n) (dst := dst) b hA
 have hpp : Q1u (pkN l).1.proto = (atN (pkN l).1.proto : Int) := (Q93 P.fine.po).2.1
 have hn9 := P.port
 have hw1 := Q1a l (ip12 l)
 have hw2 := Q1a l (ck12 l)
 have hip9 : ip12 l = pkA l + 10 := rfl
 have hck9 : ck12 l = Q32 l + atN (pkN l).1.proto := rfl
 have hol : (Q7z l dst).length ≤ 1000000 := by unfold Q7z subl; simp; omega
 have hwp : 0 ≤ Q3t (Q0a l (ck12 l)) (Q7z l dst) (Q2n l Sa) ∧ Q3t (Q0a l (ck12 l)) (Q7z l dst) (Q2n l Sa) ≤ 65535 := Q66 hw2 _ _ _
 replace s10 := PxS.cast s10 (show _ = pktF (natK l) from by rw [P.eq, Ql9 P.fine]; first | done | rfl)
 replace s11 := Is.bool s11 (show _ = Q1v l from by rw [P.eq]; rfl)
 have hq9 := at_t l
 have hq8 := at_f l
 have h83 : (if Q1v l then (8 : Int) else 12) ≤ 12 ∧ 8 ≤ (if Q1v l then (8 : Int) else 12) := by split <;> omega
 refine wp_skip ?_
 refine es ?_
 refine Q05 (l := [_, _, _, _, _]) (rest := [_, _]) 218 [[], [(0, none)], [(10, none)], [(48, some 2)], [(47, some 1), (49, some 3)]] [?b13_0, ?b13_1, ?b13_2, ?b13_3, ?b13_4] hr ?t13 ?o13 ?_
 case o13 =>
  apply oc0; intro A W hx hf
  exact Q2d [] [] tu22 Q0i Q2v rfl rfl (by decide) hx.size (PartsOk.nil)
  apply oc0; intro A W hx hf
  exact Q01 (a0 := a9) (r0 hf)
  apply oc0; intro A W hx hf
  exact Q02 11 tu37 (k := 5) rfl Q0k rfl (o2 s10 e_w5 hx (r0 hf)) rfl
  apply oc0; intro A W hx hf
  exact Q09 tu3 rfl (q0 ?b13_2 A W 48 hf) rfl
  apply oc0; intro A W hx hf
  exact Q3e (endP l) tu22 Q0i (sarg s0 (show _ = _ from (q0 ?b13_1 A W 47 hf))) (Is.int (q1 ?b13_3 A W 49 hf) (by rfl)) (by exact hbl)
  exact onn
 case t13 => exact inferInstance
 clear hr; intro a14 w14 x hr hd hs
 have z_w_w9 := e_w.size
 have z_w5_w9 := e_w5.size
 have z_w7_w9 := e_w7.size
 have l14_5 := PxS.lt (Q00 e_w5 s5)
 have l14_10 := PxS.lt (Q00 e_w5 s10)
 revert s11; revert s10; revert s5; revert s3; revert s2; revert s0; refine kp6 hs rfl ?_; intro s0 s2 s3 s5 s10 s11
 clear s45
 have s46 := fa ?b13_0 a14 w14 46 (hd 0 46 rfl)
 have s50 := AtW.base (fa ?b13_4 a14 w14 50 (hd 4 50 rfl))
 obtain ⟨g14_46, q14_46⟩ := OwnB.at s46; clear s46; have n14_46 := OwnBA.lt q14_46
 replace q14_46 := OwnBA.mono q14_46 e_w.size
 have s46 := q14_46; clear q14_46
 replace e_w := e_w.trans x
 replace e_w5 := e_w5.trans x
 replace e_w7 := e_w7.trans x; clear hd hs x
 have l15 := OwnBA.lt s46
 have l15_5 := PxS.lt (Q00 e_w5 s5)
 have l15_10 := PxS.lt (Q00 e_w5 s10)
 refine Q0s hr (by decide) tu22 Q2q rfl s46 (Q00 e_w s50) e_w.size (by first | (simp; done) | (simp; omega) | (simp [subl]; omega)) ?_; clear hr; intro g15 a15 w15 hg15 hc hr hd hs
 have hb := hc.below e_w.size l15.1
 revert s11; revert s10; revert s5; revert s3; revert s2; revert s0; refine kp6 hs rfl ?_; intro s0 s2 s3 s5 s10 s11
 clear s50 s46
 replace s5 := PxS.other (Q00 e_w5 s5) hc (by omega)
 replace s10 := PxS.other (Q00 e_w5 s10) hc (by omega)
 have s51 := hd
 replace e_w := e_w.below (Nat.le_refl _) hb
 clear e_w5
 clear e_w7
 replace s11 := anyw (w2 := w15) s11
 clear hd hs hb hc
 refine Q10 hr (Q03 s51) inferInstance ?_; clear hr; intro a16 w16 x hr hd hs
 revert s11; revert s10; revert s5; revert s3; revert s2; revert s0; refine kp6 hs rfl ?_; intro s0 s2 s3 s5 s10 s11
 clear s51
 have s12 := hd 12 rfl (by decide)
 replace e_w := e_w.trans x
 have e_w15 := x; clear hd hs x
 refine wpList_nil ?_
 replace s12 := OwnBA.cast s12 (List.nil_append _)
 refine es ?_
 refine Q04 218 [[]] [?b17_0] Q07 hr ?t17 ?o17 ?_
 case o17 =>
  apply oc0; intro A W hx hf
  exact Q06
  exact onn
 case t17 => exact inferInstance
 clear hr; intro a18 w18 x hr hd hs
 revert s11; revert s10; revert s5; revert s3; revert s2; revert s0; refine kp6 hs rfl ?_; intro s0 s2 s3 s5 s10 s11
 revert s12; refine kp1 hs rfl ?_; intro s12
 have s13 := fa ?b17_0 a18 w18 13 (hd 0 13 rfl)
 replace e_w := e_w.trans x
 replace e_w15 := e_w15.trans x
 have e_w16 := x; clear hd hs x
 refine es ?_
 refine Q04 218 [[(10, none)], [(52, some 0)], [(53, some 1)], [(54, some 2)]] [?b19_0, ?b19_1, ?b19_2, ?b19_2] Q07 hr ?t19 ?o19 ?_
 case o19 =>
  apply oc0; intro A W hx hf
  exact Q02 9 tu37 (k := 3) rfl Q0k rfl (o2 s10 e_w15 hx (r0 hf)) rfl
  apply oc0; intro A W hx hf
  exact Q09 tu3 rfl (q0 ?b19_0 A W 52 hf) rfl
  apply oc0; intro A W hx hf
  exact Q0h (q0 ?b19_1 A W 53 hf) (ec A (.int .i64 12)) (by show (-9223372036854775808 : Int) ≤ (pkA l : Int) + 12 ∧ (pkA l : Int) + 12 ≤ 9223372036854775807; omega)
  apply oc0; intro A W hx hf
  exact Q03 (q0 ?b19_2 A W 54 hf)
  exact onn
 case t19 => exact inferInstance
 clear hr; intro a20 w20 x hr hd hs
 revert s11; revert s10; revert s5; revert s3; revert s2; revert s0; refine kp6 hs rfl ?_; intro s0 s2 s3 s5 s10 s11
 revert s13; revert s12; refine kp2 hs rfl ?_; intro s12 s13
 have s14 := fa ?b19_2 a20 w20 14 (hd 3 14 rfl)
 replace e_w := e_w.trans x
 replace e_w15 := e_w15.trans x
 replace e_w16 := e_w16.trans x
 have e_w18 := x; clear hd hs x
 refine es ?_
 refine sq ?_
 refine Q04 218 [[(11, none)]] [?b21_0] Q07 hr ?t21 ?o21 ?_
 case o21 =>
  apply oc0; intro A W hx hf
  exact Q01 (a0 := a20) (r0 hf)
  exact onn
 case t21 => exact inferInstance
 clear hr; intro a22 w22 x hr hd hs
 have u55 := mv s11 (fa ?b21_0 a22 w22 55 (hd 0 55 rfl))
 revert s11; revert s10; revert s5; revert s3; revert s2; revert s0; refine kp6 hs rfl ?_; intro s0 s2 s3 s5 s10 s11
 revert s14; revert s13; revert s12; refine kp3 hs rfl ?_; intro s12 s13 s14
 have s55 := u55; clear u55
 replace e_w := e_w.trans x
 replace e_w15 := e_w15.trans x
 replace e_w16 := e_w16.trans x
 replace e_w18 := e_w18.trans x
 have e_w20 := x; clear hd hs x
 refine et ?_
 refine Q2k (fun A W => Fr 218 A ∧ Same Q5w a22 A ∧ Ext w W ∧ (PxS g2_5 w.heap.size [1, 16] [[.bool Sa.six], Sa.b.map Q0z] 0) (A.eval (.tmp 5)) W ∧ (PxS g4_10 w.heap.size [1, 1, 16, 1, 16, 1, 1, 1, 1, 1, 1, 1] (pktF (natK l)) 0) (A.eval (.tmp 10)) W ∧ (OwnBA g15 w.heap.size 5 (l.take (endP l))) (A.eval (.tmp 12)) W ∧ (Is (.int .i64 (sz12 (Q1v l) : Int))) (A.eval (.tmp 13)) W ∧ (Is (.int .i64 ((pkA l : Int) + (if Q1v l then 8 else 12)))) (A.eval (.tmp 14)) W) ?cut23 ?_
 case cut23 =>
  have m23 : Same Q5w a22 a22 := Same.rfl
  refine wp_cond_split (show _ = _ from s55) (fun h6 => ?_) (fun h6 => ?_)
  ·
   skip
   refine sq ?_
   refine Q04 218 [[]] [?b25_0] Q07 hr ?t25 ?o25 ?_
   case o25 =>
    apply oc0; intro A W hx hf
    exact Q06
    exact onn
   case t25 => exact inferInstance
   clear hr; intro a26 w26 x hr hd hs
   revert s11; revert s10; revert s5; revert s3; revert s2; revert s0; refine kp6 hs rfl ?_; intro s0 s2 s3 s5 s10 s11
   revert s12; refine kp1 hs rfl ?_; intro s12
   clear s13 s14 s55
   have s13 := fa ?b25_0 a26 w26 13 (hd 0 13 rfl)
   replace e_w := e_w.trans x
   replace e_w15 := e_w15.trans x
   replace e_w16 := e_w16.trans x
   clear e_w18
   clear e_w20
   replace m23 := m23.tr hs rfl; clear hd hs x
   refine et ?_
   refine Q04 218 [[(10, none)], [(56, some 0)], [(57, some 1)], [(58, some 2)]] [?b27_0, ?b27_1, ?b27_2, ?b27_2] Q07 hr ?t27 ?o27 ?_
   case o27 =>
    apply oc0; intro A W hx hf
    exact Q02 9 tu37 (k := 3) rfl Q0k rfl (o2 s10 e_w15 hx (r0 hf)) rfl
    apply oc0; intro A W hx hf
    exact Q09 tu3 rfl (q0 ?b27_0 A W 56 hf) rfl
    apply oc0; intro A W hx hf
    exact Q0h (q0 ?b27_1 A W 57 hf) (ec A (.int .i64 8)) (by show (-9223372036854775808 : Int) ≤ (pkA l : Int) + 8 ∧ (pkA l : Int) + 8 ≤ 9223372036854775807; omega)
    apply oc0; intro A W hx hf
    exact Q03 (q0 ?b27_2 A W 58 hf)
    exact onn
   case t27 => exact inferInstance
   clear hr; intro a28 w28 x hr hd hs
   revert s11; revert s10; revert s5; revert s3; revert s2; revert s0; refine kp6 hs rfl ?_; intro s0 s2 s3 s5 s10 s11
   revert s13; revert s12; refine kp2 hs rfl ?_; intro s12 s13
   have s14 := fa ?b27_2 a28 w28 14 (hd 3 14 rfl)
   replace e_w := e_w.trans x
   replace e_w15 := e_w15.trans x
   replace e_w16 := e_w16.trans x
   have e_w26 := x
   replace m23 := m23.tr hs rfl; clear hd hs x
   refine et ?_
   refine ⟨hr, m23, e_w, ?_, ?_, ?_, ?_, ?_⟩
   · exact (Q00 e_w15 s5)
   · exact (Q00 e_w15 s10)
   · exact (Q00 e_w16 s12)
   · exact Is.int (Q00 e_w26 s13) (by rw [h6]; rfl)
   · exact Is.int s14 (by rw [h6]; rfl)
  skip
  refine wp_skip ?_
  refine et ?_
  refine ⟨hr, m23, e_w, ?_, ?_, ?_, ?_, ?_⟩
  · exact (Q00 e_w15 s5)
  · exact (Q00 e_w15 s10)
  · exact (Q00 e_w16 s12)
  · exact Is.int (Q00 e_w18 s13) (by rw [h6]; rfl)
  · exact Is.int (Q00 e_w20 s14) (by rw [h6]; rfl)
 intro a23 w23 hI
 clear e_w
 clear e_w15
 clear e_w16
 clear e_w18
 clear e_w20
 clear hr; obtain ⟨hr, hs, e_w, u5, u10, u12, u13, u14⟩ := hI
 revert s11; revert s3; revert s2; revert s0; refine kp4 hs rfl ?_; intro s0 s2 s3 s11
 clear s5 s10 s12 s13 s14 s55
 have s5 := u5; clear u5
 have s10 := u10; clear u10
 have s12 := u12; clear u12
 have s13 := u13; clear u13
 have s14 := u14; clear u14
 replace s11 := anyw (w2 := w23) s11
 clear hs
 refine sq ?_
 refine Q04 218 [[(10, none)], [(59, some 0)], [(60, some 1)]] [?b29_0, ?b29_1, ?b29_1] Q07 hr ?t29 ?o29 ?_
 case o29 =>
  apply oc0; intro A W hx hf
  exact Q02 10 tu37 (k := 4) rfl Q0k rfl (o1 s10 hx (r0 hf)) rfl
  apply oc0; intro A W hx hf
  exact Q09 tu3 rfl (q0 ?b29_0 A W 59 hf) rfl
  apply oc0; intro A W hx hf
  exact Q03 (q0 ?b29_1 A W 60 hf)
  exact onn
 case t29 => exact inferInstance
 clear hr; intro a30 w30 x hr hd hs
 revert s12; revert s10; revert s5; revert s3; revert s2; revert s0; refine kp6 hs rfl ?_; intro s0 s2 s3 s5 s10 s12
 revert s11; revert s14; revert s13; refine kp3 hs rfl ?_; intro s13 s14 s11
 have s15 := fa ?b29_1 a30 w30 15 (hd 2 15 rfl)
 replace e_w := e_w.trans x
 have e_w23 := x; clear hd hs x
 refine es ?_
 refine sq ?_
 refine Q04 218 [[(3, none)]] [?b31_0] Q07 hr ?t31 ?o31 ?_
 case o31 =>
  apply oc0; intro A W hx hf
  exact Q01 (a0 := a30) (r0 hf)
  exact onn
 case t31 => exact inferInstance
 clear hr; intro a32 w32 x hr hd hs
 have u61 := mv s3 (fa ?b31_0 a32 w32 61 (hd 0 61 rfl))
 revert s13; revert s12; revert s10; revert s5; revert s2; revert s0; refine kp6 hs rfl ?_; intro s0 s2 s5 s10 s12 s13
 revert s15; revert s11; revert s14; refine kp3 hs rfl ?_; intro s14 s11 s15
 clear s3
 have s61 := u61; clear u61
 replace e_w := e_w.trans x
 replace e_w23 := e_w23.trans x
 have e_w30 := x; clear hd hs x
 refine et ?_
 refine Q2k (fun A W => Fr 218 A ∧ Same Q5x a32 A ∧ Ext w W ∧ (PxS g2_5 w.heap.size [1, 16] [[.bool Sa.six], Sa.b.map Q0z] 0) (A.eval (.tmp 5)) W ∧ (PxS g4_10 w.heap.size [1, 1, 16, 1, 16, 1, 1, 1, 1, 1, 1, 1] (pktF (natK l)) 0) (A.eval (.tmp 10)) W ∧ (OwnBA g15 w.heap.size 5 (l.take (endP l))) (A.eval (.tmp 12)) W ∧ (Is (.int .i64 (at12 l dst : Int))) (A.eval (.tmp 14)) W ∧ (Is (.int .i64 (pl12 l dst : Int))) (A.eval (.tmp 15)) W) ?cut33 ?_
 case cut33 =>
  have m33 : Same Q5x a32 a32 := Same.rfl
  refine wp_cond_split (show _ = _ from s61) (fun hd => ?_) (fun hd => ?_)
  ·
   skip
   refine sq ?_
   refine Q04 218 [[(14, none)], [(13, none)], [(62, some 0), (63, some 1)], [(64, some 2)]] [?b35_0, ?b35_1, ?b35_2, ?b35_2] Q07 hr ?t35 ?o35 ?_
   case o35 =>
    apply oc0; intro A W hx hf
    exact Q01 (a0 := a32) (r0 hf)
    apply oc0; intro A W hx hf
    exact Q01 (a0 := a32) (r0 hf)
    apply oc0; intro A W hx hf
    exact Q0h (p2 s14 e_w23 hx (q0 ?b35_0 A W 62 hf)) (p2 s13 e_w23 hx (q1 ?b35_1 A W 63 hf)) (by omega)
    apply oc0; intro A W hx hf
    exact Q03 (q0 ?b35_2 A W 64 hf)
    exact onn
   case t35 => exact inferInstance
   clear hr; intro a36 w36 x hr hd hs
   revert s13; revert s12; revert s10; revert s5; revert s2; revert s0; refine kp6 hs rfl ?_; intro s0 s2 s5 s10 s12 s13
   revert s11; refine kp1 hs rfl ?_; intro s11
   clear s14 s15 s61
   have s14 := fa ?b35_2 a36 w36 14 (hd 3 14 rfl)
   replace e_w := e_w.trans x
   replace e_w23 := e_w23.trans x
   clear e_w30
   replace m33 := m33.tr hs rfl; clear hd hs x
   refine et ?_
   refine Q04 218 [[(10, none)], [(65, some 0)], [(66, some 1)], [(67, some 2)]] [?b37_0, ?b37_1, ?b37_2, ?b37_2] Q07 hr ?t37 ?o37 ?_
   case o37 =>
    apply oc0; intro A W hx hf
    exact Q02 10 tu37 (k := 4) rfl Q0k rfl (o2 s10 e_w23 hx (r0 hf)) rfl
    apply oc0; intro A W hx hf
    exact Q09 tu3 rfl (q0 ?b37_0 A W 65 hf) rfl
    apply oc0; intro A W hx hf
    exact Q0h (q0 ?b37_1 A W 66 hf) (ec A (.int .i64 2)) (by show (-9223372036854775808 : Int) ≤ (Q32 l : Int) + 2 ∧ (Q32 l : Int) + 2 ≤ 9223372036854775807; omega)
    apply oc0; intro A W hx hf
    exact Q03 (q0 ?b37_2 A W 67 hf)
    exact onn
   case t37 => exact inferInstance
   clear hr; intro a38 w38 x hr hd hs
   revert s13; revert s12; revert s10; revert s5; revert s2; revert s0; refine kp6 hs rfl ?_; intro s0 s2 s5 s10 s12 s13
   revert s14; revert s11; refine kp2 hs rfl ?_; intro s11 s14
   have s15 := fa ?b37_2 a38 w38 15 (hd 3 15 rfl)
   replace e_w := e_w.trans x
   replace e_w23 := e_w23.trans x
   have e_w36 := x
   replace m33 := m33.tr hs rfl; clear hd hs x
   refine et ?_
   refine ⟨hr, m33, e_w, ?_, ?_, ?_, ?_, ?_⟩
   · exact (Q00 e_w23 s5)
   · exact (Q00 e_w23 s10)
   · exact (Q00 e_w23 s12)
   · first | exact Is.int (Q00 e_w36 s14) (by rw [hd]; exact at_t l) | exact Is.int (Q00 e_w36 s14) (by rw [hd]; exact at_f l)
   · first | exact Is.int s15 (by rw [hd]; exact pl_t l) | exact Is.int s15 (by rw [hd]; exact pl_f l)
  skip
  refine wp_skip ?_
  refine et ?_
  refine ⟨hr, m33, e_w, ?_, ?_, ?_, ?_, ?_⟩
  · exact (Q00 e_w23 s5)
  · exact (Q00 e_w23 s10)
  · exact (Q00 e_w23 s12)
  · first | exact Is.int (Q00 e_w23 s14) (by rw [hd]; exact at_t l) | exact Is.int (Q00 e_w23 s14) (by rw [hd]; exact at_f l)
  · first | exact Is.int (Q00 e_w30 s15) (by rw [hd]; exact pl_t l) | exact Is.int (Q00 e_w30 s15) (by rw [hd]; exact pl_f l)
 intro a33 w33 hI
 clear e_w
 clear e_w23
 clear e_w30
 clear hr; obtain ⟨hr, hs, e_w, u5, u10, u12, u14, u15⟩ := hI
 revert s11; revert s13; revert s2; revert s0; refine kp4 hs rfl ?_; intro s0 s2 s13 s11
 clear s5 s10 s12 s14 s15 s61
 have s5 := u5; clear u5
 have s10 := u10; clear u10
 have s12 := u12; clear u12
 have s14 := u14; clear u14
 have s15 := u15; clear u15
 replace s13 := anyw (w2 := w33) s13
 replace s11 := anyw (w2 := w33) s11
 clear hs
 refine sq ?_
 refine Q05 (l := [_, _, _, _, _, _, _]) (rest := [_, _]) 218 [[], [(0, none)], [(14, none)], [(14, none)], [(13, none)], [(71, some 3), (72, some 4)], [(69, some 1), (70, some 2), (73, some 5)]] [?b39_0, ?b39_1, ?b39_2, ?b39_3, ?b39_4, ?b39_5, ?b39_6] hr ?t39 ?o39 ?_
 case o39 =>
  apply oc0; intro A W hx hf
  exact Q2d [] [] tu22 Q0i Q2v rfl rfl (by decide) hx.size (PartsOk.nil)
  apply oc0; intro A W hx hf
  exact Q01 (a0 := a33) (r0 hf)
  apply oc0; intro A W hx hf
  exact Q01 (a0 := a33) (r0 hf)
  apply oc0; intro A W hx hf
  exact Q01 (a0 := a33) (r0 hf)
  apply oc0; intro A W hx hf
  exact Q01 (a0 := a33) (r0 hf)
  apply oc0; intro A W hx hf
  exact Q0h (p1 s14 hx (q0 ?b39_3 A W 71 hf)) (p1 s13 hx (q1 ?b39_4 A W 72 hf)) (by omega)
  apply oc0; intro A W hx hf
  exact Q53 (at12 l dst) (at12 l dst + sz12 (Q1v l)) tu22 Q0i (sarg s0 (show _ = _ from (q0 ?b39_1 A W 69 hf))) (Is.int (p1 s14 hx (q1 ?b39_2 A W 70 hf)) (by rfl)) (Is.int (q2 ?b39_5 A W 73 hf) (by omega)) (by omega) (by omega)
  exact onn
 case t39 => exact inferInstance
 clear hr; intro a40 w40 x hr hd hs
 have z_w_w33 := e_w.size
 have l40_5 := PxS.lt s5
 have l40_10 := PxS.lt s10
 have l40_12 := OwnBA.lt s12
 revert s14; revert s12; revert s10; revert s5; revert s2; revert s0; refine kp6 hs rfl ?_; intro s0 s2 s5 s10 s12 s14
 revert s11; revert s13; revert s15; refine kp3 hs rfl ?_; intro s15 s13 s11
 have s68 := fa ?b39_0 a40 w40 68 (hd 0 68 rfl)
 have s74 := AtW.base (fa ?b39_6 a40 w40 74 (hd 6 74 rfl))
 obtain ⟨g40_68, q40_68⟩ := OwnB.at s68; clear s68; have n40_68 := OwnBA.lt q40_68
 replace q40_68 := OwnBA.mono q40_68 e_w.size
 have s68 := q40_68; clear q40_68
 replace e_w := e_w.trans x
 have e_w33 := x; clear hd hs x
 have l41 := OwnBA.lt s68
 have l41_5 := PxS.lt (Q00 e_w33 s5)
 have l41_10 := PxS.lt (Q00 e_w33 s10)
 have l41_12 := OwnBA.lt (Q00 e_w33 s12)
 refine Q0s hr (by decide) tu22 Q2q rfl s68 (Q00 e_w s74) e_w.size (by first | (simp; done) | (simp; omega) | (simp [subl]; omega)) ?_; clear hr; intro g41 a41 w41 hg41 hc hr hd hs
 have hb := hc.below e_w.size l41.1
 revert s14; revert s12; revert s10; revert s5; revert s2; revert s0; refine kp6 hs rfl ?_; intro s0 s2 s5 s10 s12 s14
 revert s11; revert s13; revert s15; refine kp3 hs rfl ?_; intro s15 s13 s11
 clear s74 s68
 replace s5 := PxS.other (Q00 e_w33 s5) hc (by omega)
 replace s10 := PxS.other (Q00 e_w33 s10) hc (by omega)
 replace s12 := OwnBA.other (Q00 e_w33 s12) hc (by omega)
 have s75 := hd
 replace e_w := e_w.below (Nat.le_refl _) hb
 clear e_w33
 replace s14 := anyw (w2 := w41) s14
 replace s15 := anyw (w2 := w41) s15
 replace s13 := anyw (w2 := w41) s13
 replace s11 := anyw (w2 := w41) s11
 clear hd hs hb hc
 refine Q10 hr (Q03 s75) inferInstance ?_; clear hr; intro a42 w42 x hr hd hs
 revert s14; revert s12; revert s10; revert s5; revert s2; revert s0; refine kp6 hs rfl ?_; intro s0 s2 s5 s10 s12 s14
 revert s11; revert s13; revert s15; refine kp3 hs rfl ?_; intro s15 s13 s11
 clear s75
 have s16 := hd 16 rfl (by decide)
 replace e_w := e_w.trans x
 have e_w41 := x; clear hd hs x
 refine wpList_nil ?_
 replace s16 := OwnBA.cast s16 (show _ = Q7z l dst from List.nil_append _)
 refine es ?_
 refine Q04 218 [[]] [?b43_0] Q07 hr ?t43 ?o43 ?_
 case o43 =>
  apply oc0; intro A W hx hf
  exact Q1j (OwnBA 0 w.heap.size 5 []) (fun _ => Q24)
  exact onn
 case t43 => exact inferInstance
 clear hr; intro a44 w44 x hr hd hs
 revert s14; revert s12; revert s10; revert s5; revert s2; revert s0; refine kp6 hs rfl ?_; intro s0 s2 s5 s10 s12 s14
 revert s16; revert s11; revert s13; revert s15; refine kp4 hs rfl ?_; intro s15 s13 s11 s16
 have s17 := fa ?b43_0 a44 w44 17 (hd 0 17 rfl)
 replace e_w := e_w.trans x
 replace e_w41 := e_w41.trans x
 have e_w42 := x; clear hd hs x
 refine es ?_
 refine sq ?_
 refine Q04 218 [[]] [?b45_0] Q07 hr ?t45 ?o45 ?_
 case o45 =>
  apply oc0; intro A W hx hf
  exact Q06
  exact onn
 case t45 => exact inferInstance
 clear hr; intro a46 w46 x hr hd hs
 revert s14; revert s12; revert s10; revert s5; revert s2; revert s0; refine kp6 hs rfl ?_; intro s0 s2 s5 s10 s12 s14
 revert s17; revert s16; revert s11; revert s13; revert s15; refine kp5 hs rfl ?_; intro s15 s13 s11 s16 s17
 have s18 := fa ?b45_0 a46 w46 18 (hd 0 18 rfl)
 replace e_w := e_w.trans x
 replace e_w41 := e_w41.trans x
 replace e_w42 := e_w42.trans x
 have e_w44 := x; clear hd hs x
 refine et ?_
 refine wp_block ?_
 refine Q11 (fun n A W => ∃ (i δ : Nat), n = sz12 (Q1v l) - i ∧ Fr 218 A ∧ Same Q8p a46 A ∧ Ext w W ∧ (i ≤ sz12 (Q1v l)) ∧ (g2_5 ≠ δ) ∧ (g4_10 ≠ δ) ∧ (g15 = 0 ∨ g15 ≠ δ) ∧ (g41 = 0 ∨ g41 ≠ δ) ∧ (PxS g2_5 w.heap.size [1, 16] [[.bool Sa.six], Sa.b.map Q0z] 0) (A.eval (.tmp 5)) W ∧ (PxS g4_10 w.heap.size [1, 1, 16, 1, 16, 1, 1, 1, 1, 1, 1, 1] (pktF (natK l)) 0) (A.eval (.tmp 10)) W ∧ (OwnBA g15 w.heap.size 5 (Q3n (l.take (endP l)) (at12 l dst) (Sa.b.take i))) (A.eval (.tmp 12)) W ∧ (OwnBA g41 w.heap.size 5 (Q7z l dst)) (A.eval (.tmp 16)) W ∧ (OwnBA δ w.heap.size 5 (Sa.b.take i)) (A.eval (.tmp 17)) W ∧ (Is (.int .i64 (i : Int))) (A.eval (.tmp 18)) W) ?start47 ?_
 case start47 =>
  refine ⟨_, 0, 0, rfl, hr, Same.rfl, e_w, (by first | assumption | omega), (by first | assumption | omega), (by first | assumption | omega), (by first | assumption | omega), (by first | assumption | omega), ?_, ?_, ?_, ?_, ?_, ?_⟩
  · exact (Q00 e_w41 s5)
  · exact (Q00 e_w41 s10)
  · exact OwnBA.cast (Q00 e_w41 s12) (by rw [List.take_zero, Qcm])
  · exact (Q00 e_w42 s16)
  · exact (Q00 e_w44 s17)
  · exact s18
 intro n47 a47 w47 hI
 clear e_w
 clear e_w41
 clear e_w42
 clear e_w44
 clear hr; obtain ⟨i, δ, hn47, hr, hs, e_w, hi9, nd5, nd10, nd12, nd16, u5, u10, u12, u16, u17, u18⟩ := hI
 revert s11; revert s13; revert s15; revert s14; revert s2; revert s0; refine kp6 hs rfl ?_; intro s0 s2 s14 s15 s13 s11
 clear s5 s10 s12 s16 s17 s18
 have s5 := u5; clear u5
 have s10 := u10; clear u10
 have s12 := u12; clear u12
 have s16 := u16; clear u16
 have s17 := u17; clear u17
 have s18 := u18; clear u18
 replace s14 := anyw (w2 := w47) s14
 replace s15 := anyw (w2 := w47) s15
 replace s13 := anyw (w2 := w47) s13
 replace s11 := anyw (w2 := w47) s11
 have m47 := hs; clear hs
 refine sq ?_
 refine sq ?_
 refine Q04 218 [[(18, none)], [(13, none)], [(76, some 0), (77, some 1)]] [?b48_0, ?b48_1, ?b48_2] Q07 hr ?t48 ?o48 ?_
 case o48 =>
  apply oc0; intro A W hx hf
  exact Q01 (a0 := a47) (r0 hf)
  apply oc0; intro A W hx hf
  exact Q01 (a0 := a47) (r0 hf)
  apply oc0; intro A W hx hf
  exact Q1e (p1 s18 hx (q0 ?b48_0 A W 76 hf)) (p1 s13 hx (q1 ?b48_1 A W 77 hf))
  exact onn
 case t48 => exact inferInstance
 clear hr; intro a49 w49 x hr hd hs
 revert s16; revert s12; revert s10; revert s5; revert s2; revert s0; refine kp6 hs rfl ?_; intro s0 s2 s5 s10 s12 s16
 revert s11; revert s13; revert s15; revert s14; revert s18; revert s17; refine kp6 hs rfl ?_; intro s17 s18 s14 s15 s13 s11
 have s78 := fa ?b48_2 a49 w49 78 (hd 2 78 rfl)
 replace e_w := e_w.trans x
 have e_w47 := x
 replace m47 := m47.tr hs rfl; clear hd hs x
 refine et ?_
 refine wp_cond_split (show _ = _ from s78) (fun hlt => ?_) (fun hlt => ?_)
 ·
  have hlt : i < sz12 (Q1v l) := by simp at hlt; omega
  have hi16 : i < Sa.b.length := by omega
  have hli : (Q3n (l.take (endP l)) (at12 l dst) (Sa.b.take i)).length = endP l := by rw [Qeh (by omega) (by simp; omega)]; simp; omega
  refine wp_skip ?_
  refine es ?_
  refine wp_block ?_
  refine sq ?_
  refine Q05 (l := [_, _, _, _, _, _]) (rest := [_, _]) 218 [[(17, none)], [(18, none)], [(5, none)], [(83, some 2), (82, some 1)], [(84, some 3)], [(85, some 4)]] [?b51_0, ?b51_1, ?b51_2, ?b51_3, ?b51_4, ?b51_5] hr ?t51 ?o51 ?_
  case o51 =>
   apply oc0; intro A W hx hf
   exact Q01 (a0 := a49) (r0 hf)
   apply oc0; intro A W hx hf
   exact Q01 (a0 := a49) (r0 hf)
   apply oc0; intro A W hx hf
   exact Q02 1 tu25 (k := 1) rfl Q4a rfl (o2 s5 e_w47 hx (r0 hf)) rfl
   apply oc0; intro A W hx hf
   exact Q2j (i) tu23 Q0i (q0 ?b51_2 A W 83 hf) (p2 s18 e_w47 hx (q1 ?b51_1 A W 82 hf)) rfl (by first | exact hi16 | omega)
   apply oc0; intro A W hx hf
   exact Q4e tu5 rfl (q0 ?b51_3 A W 84 hf) rfl (by first | omega | (simp; omega) | (simp [*]; omega))
   apply oc0; intro A W hx hf
   exact Q1m [(.tmp 85)] [_] tu22 Q0i Q2v rfl rfl (by decide) (PartsOk.cons (q0 ?b51_4 A W 85 hf) (PartsOk.nil))
   exact onn
  case t51 => exact inferInstance
  clear hr; intro a52 w52 x hr hd hs
  have u81 := mv s17 (fa ?b51_0 a52 w52 81 (hd 0 81 rfl))
  revert s16; revert s12; revert s10; revert s5; revert s2; revert s0; refine kp6 hs rfl ?_; intro s0 s2 s5 s10 s12 s16
  revert s11; revert s13; revert s15; revert s14; revert s18; revert s17; refine kp6 hs rfl ?_; intro s17 s18 s14 s15 s13 s11
  clear s78
  have s81 := u81; clear u81
  have s86 := fa ?b51_5 a52 w52 86 (hd 5 86 rfl)
  replace e_w := e_w.trans x
  replace e_w47 := e_w47.trans x
  replace m47 := m47.tr hs rfl; clear hd hs x
  have l53 := OwnBA.lt (Q00 e_w47 s81)
  have l53_5 := PxS.lt (Q00 e_w47 s5)
  have l53_10 := PxS.lt (Q00 e_w47 s10)
  have l53_12 := OwnBA.lt (Q00 e_w47 s12)
  have l53_16 := OwnBA.lt (Q00 e_w47 s16)
  refine Q0s hr (by decide) tu22 Q2q rfl (Q00 e_w47 s81) s86 e_w.size (by first | (simp; done) | (simp; omega) | (simp [subl]; omega)) ?_; clear hr; intro g53 a53 w53 hg53 hc hr hd hs
  have hb := hc.below e_w.size l53.1
  revert s16; revert s12; revert s10; revert s5; revert s2; revert s0; refine kp6 hs rfl ?_; intro s0 s2 s5 s10 s12 s16
  revert s11; revert s13; revert s15; revert s14; revert s18; refine kp5 hs rfl ?_; intro s18 s14 s15 s13 s11
  clear s17 s81 s86
  replace s5 := PxS.other (Q00 e_w47 s5) hc (by omega)
  replace s10 := PxS.other (Q00 e_w47 s10) hc (by omega)
  replace s12 := OwnBA.other (Q00 e_w47 s12) hc (by omega)
  replace s16 := OwnBA.other (Q00 e_w47 s16) hc (by omega)
  have s87 := hd
  replace e_w := e_w.below (Nat.le_refl _) hb
  clear e_w47
  replace s18 := anyw (w2 := w53) s18
  replace s14 := anyw (w2 := w53) s14
  replace s15 := anyw (w2 := w53) s15
  replace s13 := anyw (w2 := w53) s13
  replace s11 := anyw (w2 := w53) s11
  replace m47 := m47.tr hs rfl
  clear hd hs hb hc
  refine Q10 hr (Q03 s87) inferInstance ?_; clear hr; intro a54 w54 x hr hd hs
  revert s16; revert s12; revert s10; revert s5; revert s2; revert s0; refine kp6 hs rfl ?_; intro s0 s2 s5 s10 s12 s16
  revert s11; revert s13; revert s15; revert s14; revert s18; refine kp5 hs rfl ?_; intro s18 s14 s15 s13 s11
  clear s87
  have s17 := hd 17 rfl (by decide)
  replace e_w := e_w.trans x
  have e_w53 := x
  replace m47 := m47.tr hs rfl; clear hd hs x
  refine wpList_nil ?_
  replace s17 := OwnBA.cast s17 (List.take_succ_eq_append_getElem hi16).symm
  refine et ?_
  refine Q05 (l := [_, _, _, _, _, _, _, _, _]) (rest := [_]) 218 [[(12, none)], [(14, none)], [(18, none)], [(89, some 1), (90, some 2)], [(18, none)], [(5, none)], [(93, some 5), (92, some 4)], [(94, some 6)], [(88, some 0), (91, some 3)]] [?b55_0, ?b55_1, ?b55_2, ?b55_3, ?b55_4, ?b55_5, ?b55_6, ?b55_7, ?b55_8] hr ?t55 ?o55 ?_
  case o55 =>
   apply oc0; intro A W hx hf
   exact Q01 (a0 := a54) (r0 hf)
   apply oc0; intro A W hx hf
   exact Q01 (a0 := a54) (r0 hf)
   apply oc0; intro A W hx hf
   exact Q01 (a0 := a54) (r0 hf)
   apply oc0; intro A W hx hf
   exact Q0h (p2 s14 e_w53 hx (q0 ?b55_1 A W 89 hf)) (p2 s18 e_w53 hx (q1 ?b55_2 A W 90 hf)) (by omega)
   apply oc0; intro A W hx hf
   exact Q01 (a0 := a54) (r0 hf)
   apply oc0; intro A W hx hf
   exact Q02 1 tu25 (k := 1) rfl Q4a rfl (o2 s5 e_w53 hx (r0 hf)) rfl
   apply oc0; intro A W hx hf
   exact Q2j (i) tu23 Q0i (q0 ?b55_5 A W 93 hf) (p2 s18 e_w53 hx (q1 ?b55_4 A W 92 hf)) rfl (by first | exact hi16 | omega)
   apply oc0; intro A W hx hf
   exact Q4e tu5 rfl (q0 ?b55_6 A W 94 hf) rfl (by first | omega | (simp; omega) | (simp [*]; omega))
   apply oc0; intro A W hx hf
   exact Q1s (at12 l dst + i) tu22 Q0i (p2 s12 e_w53 hx (q0 ?b55_0 A W 88 hf)) (Is.int (q1 ?b55_3 A W 91 hf) (by omega)) (by rw [hli]; omega)
   exact onn
  case t55 => exact inferInstance
  clear hr; intro a56 w56 x hr hd hs
  revert s16; revert s12; revert s10; revert s5; revert s2; revert s0; refine kp6 hs rfl ?_; intro s0 s2 s5 s10 s12 s16
  revert s17; revert s11; revert s13; revert s15; revert s14; revert s18; refine kp6 hs rfl ?_; intro s18 s14 s15 s13 s11 s17
  have s95 := fa ?b55_7 a56 w56 95 (hd 7 95 rfl)
  have s96 := fa ?b55_8 a56 w56 96 (hd 8 96 rfl)
  replace e_w := e_w.trans x
  replace e_w53 := e_w53.trans x
  have e_w54 := x
  replace m47 := m47.tr hs rfl; clear hd hs x
  have z57 := EpA.lt s96
  have l57 := (show (g15 = 0 ∨ w.heap.size < g15) ∧ True from ⟨by omega, trivial⟩)
  have l57_5 := PxS.lt (Q00 e_w53 s5)
  have l57_10 := PxS.lt (Q00 e_w53 s10)
  have l57_16 := OwnBA.lt (Q00 e_w53 s16)
  have l57_17 := OwnBA.lt (Q00 e_w54 s17)
  refine Q1t hr Q0i s96 s95 ?_; clear hr; intro a57 w57 hc hu hr hs
  have hb : Below w.heap.size w56 w57 := hc.below e_w.size l57.1
  revert s16; revert s12; revert s10; revert s5; revert s2; revert s0; refine kp6 hs rfl ?_; intro s0 s2 s5 s10 s12 s16
  revert s17; revert s11; revert s13; revert s15; revert s14; revert s18; refine kp6 hs rfl ?_; intro s18 s14 s15 s13 s11 s17
  clear s95 s96
  replace s5 := PxS.other (Q00 e_w53 s5) hc (by omega)
  replace s10 := PxS.other (Q00 e_w53 s10) hc (by omega)
  replace s12 := hu _ _ _ (Q00 e_w53 s12)
  replace s16 := OwnBA.other (Q00 e_w53 s16) hc (by omega)
  replace s17 := OwnBA.other (Q00 e_w54 s17) hc (by omega)
  replace e_w := e_w.below (Nat.le_refl _) hb
  clear e_w53
  clear e_w54
  replace s18 := anyw (w2 := w57) s18
  replace s14 := anyw (w2 := w57) s14
  replace s15 := anyw (w2 := w57) s15
  replace s13 := anyw (w2 := w57) s13
  replace s11 := anyw (w2 := w57) s11
  replace m47 := m47.tr hs rfl
  clear hu hs hc hb
  refine wpList_nil ?_
  refine Q0w ?_
  refine et ?_
  refine Q04 218 [[(18, none)], [(79, some 0)], [(80, some 1)]] [?b58_0, ?b58_1, ?b58_1] Q07 hr ?t58 ?o58 ?_
  case o58 =>
   apply oc0; intro A W hx hf
   exact Q01 (a0 := a57) (r0 hf)
   apply oc0; intro A W hx hf
   exact Q0h (p1 s18 hx (q0 ?b58_0 A W 79 hf)) (ec A (.int .i64 1)) (by omega)
   apply oc0; intro A W hx hf
   exact Q03 (q0 ?b58_1 A W 80 hf)
   exact onn
  case t58 => exact inferInstance
  clear hr; intro a59 w59 x hr hd hs
  revert s16; revert s12; revert s10; revert s5; revert s2; revert s0; refine kp6 hs rfl ?_; intro s0 s2 s5 s10 s12 s16
  revert s11; revert s13; revert s15; revert s14; revert s17; refine kp5 hs rfl ?_; intro s17 s14 s15 s13 s11
  clear s18
  have s18 := fa ?b58_1 a59 w59 18 (hd 2 18 rfl)
  replace e_w := e_w.trans x
  have e_w57 := x
  replace m47 := m47.tr hs rfl; clear hd hs x
  refine et ?_
  refine ⟨(fun (i δ : Nat) => sz12 (Q1v l) - i) (i + 1) (0), ?_, ?_⟩
  · (try dsimp only); omega
  refine ⟨i + 1, g53, rfl, hr, m47, e_w, (by first | assumption | omega), (by first | assumption | omega), (by first | assumption | omega), (by first | assumption | omega), (by first | assumption | omega), ?_, ?_, ?_, ?_, ?_, ?_⟩
  · exact (Q00 e_w57 s5)
  · exact (Q00 e_w57 s10)
  · exact OwnBA.cast (Q00 e_w57 s12) (Qps hi16 (by simp; omega))
  · exact (Q00 e_w57 s16)
  · exact (Q00 e_w57 s17)
  · exact s18
 have hlt : i = sz12 (Q1v l) := by simp at hlt; omega
 subst hlt
 have hl11 : (Q3n (l.take (endP l)) (at12 l dst) (Q2n l Sa)).length = endP l := by rw [Q3o (by rw [hfl]; simp; omega)]; simp; omega
 replace s12 := OwnBA.cast s12 (show _ = Q3n (l.take (endP l)) (at12 l dst) (Q2n l Sa) from rfl)
 replace s17 := OwnBA.cast s17 (show _ = Q2n l Sa from rfl)
 refine wp_exit ?_
 refine Q0g ?_
 refine Q0g ?_
 refine Q1b ?_
 refine es ?_
 refine Q05 (l := [_, _, _, _, _, _]) (rest := [_]) 218 [[(12, none)], [(15, none)], [(2, none)], [(99, some 2)], [(100, some 3)], [(97, some 0), (98, some 1)]] [?b60_0, ?b60_1, ?b60_2, ?b60_3, ?b60_4, ?b60_5] hr ?t60 ?o60 ?_
 case o60 =>
  apply oc0; intro A W hx hf
  exact Q01 (a0 := a49) (r0 hf)
  apply oc0; intro A W hx hf
  exact Q01 (a0 := a49) (r0 hf)
  apply oc0; intro A W hx hf
  exact Q01 (a0 := a49) (r0 hf)
  apply oc0; intro A W hx hf
  exact Q30 (by decide) (p2 s2 e_w hx (q0 ?b60_2 A W 99 hf)) (ec A (.int .i64 256))
  apply oc0; intro A W hx hf
  exact Q18 tu3 tu5 (q0 ?b60_3 A W 100 hf)
  apply oc0; intro A W hx hf
  exact Q1s (pl12 l dst) tu22 Q0i (p2 s12 e_w47 hx (q0 ?b60_0 A W 97 hf)) (p2 s15 e_w47 hx (q1 ?b60_1 A W 98 hf)) (by rw [hl11]; omega)
  exact onn
 case t60 => exact inferInstance
 clear hr; intro a61 w61 x hr hd hs
 revert s17; revert s16; revert s12; revert s10; revert s2; revert s0; refine kp6 hs rfl ?_; intro s0 s2 s10 s12 s16 s17
 revert s11; revert s15; refine kp2 hs rfl ?_; intro s15 s11
 clear s5 s18 s14 s13 s78
 have s101 := fa ?b60_4 a61 w61 101 (hd 4 101 rfl)
 have s102 := fa ?b60_5 a61 w61 102 (hd 5 102 rfl)
 replace e_w := e_w.trans x
 replace e_w47 := e_w47.trans x; clear hd hs x
 have z62 := EpA.lt s102
 have l62 := (show (g15 = 0 ∨ w.heap.size < g15) ∧ True from ⟨by omega, trivial⟩)
 have l62_10 := PxS.lt (Q00 e_w47 s10)
 have l62_16 := OwnBA.lt (Q00 e_w47 s16)
 have l62_17 := OwnBA.lt (Q00 e_w47 s17)
 refine Q1t hr Q0i s102 s101 ?_; clear hr; intro a62 w62 hc hu hr hs
 have hb : Below w.heap.size w61 w62 := hc.below e_w.size l62.1
 revert s17; revert s16; revert s12; revert s10; revert s2; revert s0; refine kp6 hs rfl ?_; intro s0 s2 s10 s12 s16 s17
 revert s11; revert s15; refine kp2 hs rfl ?_; intro s15 s11
 clear s101 s102
 replace s10 := PxS.other (Q00 e_w47 s10) hc (by omega)
 replace s12 := hu _ _ _ (Q00 e_w47 s12)
 replace s16 := OwnBA.other (Q00 e_w47 s16) hc (by omega)
 replace s17 := OwnBA.other (Q00 e_w47 s17) hc (by omega)
 replace e_w := e_w.below (Nat.le_refl _) hb
 clear e_w47
 replace s15 := anyw (w2 := w62) s15
 replace s11 := anyw (w2 := w62) s11
 clear hu hs hc hb
 refine wpList_nil ?_
 refine es ?_
 refine Q05 (l := [_, _, _, _, _, _, _]) (rest := [_]) 218 [[(12, none)], [(15, none)], [(104, some 1)], [(2, none)], [(106, some 3)], [(107, some 4)], [(103, some 0), (105, some 2)]] [?b63_0, ?b63_1, ?b63_2, ?b63_3, ?b63_4, ?b63_5, ?b63_6] hr ?t63 ?o63 ?_
 case o63 =>
  apply oc0; intro A W hx hf
  exact Q01 (a0 := a62) (r0 hf)
  apply oc0; intro A W hx hf
  exact Q01 (a0 := a62) (r0 hf)
  apply oc0; intro A W hx hf
  exact Q0h (p1 s15 hx (q0 ?b63_1 A W 104 hf)) (ec A (.int .i64 1)) (by omega)
  apply oc0; intro A W hx hf
  exact Q01 (a0 := a62) (r0 hf)
  apply oc0; intro A W hx hf
  exact Q31 (by decide) (p2 s2 e_w hx (q0 ?b63_3 A W 106 hf)) (ec A (.int .i64 256))
  apply oc0; intro A W hx hf
  exact Q18 tu3 tu5 (q0 ?b63_4 A W 107 hf)
  apply oc0; intro A W hx hf
  exact Q1s (pl12 l dst + 1) tu22 Q0i (p1 s12 hx (q0 ?b63_0 A W 103 hf)) (Is.int (q1 ?b63_2 A W 105 hf) (by omega)) (by rw [List.length_set, hl11]; omega)
  exact onn
 case t63 => exact inferInstance
 clear hr; intro a64 w64 x hr hd hs
 revert s17; revert s16; revert s12; revert s10; revert s2; revert s0; refine kp6 hs rfl ?_; intro s0 s2 s10 s12 s16 s17
 revert s11; revert s15; refine kp2 hs rfl ?_; intro s15 s11
 have s108 := fa ?b63_5 a64 w64 108 (hd 5 108 rfl)
 have s109 := fa ?b63_6 a64 w64 109 (hd 6 109 rfl)
 replace e_w := e_w.trans x
 have e_w62 := x; clear hd hs x
 have z65 := EpA.lt s109
 have l65 := (show (g15 = 0 ∨ w.heap.size < g15) ∧ True from ⟨by omega, trivial⟩)
 have l65_10 := PxS.lt (Q00 e_w62 s10)
 have l65_16 := OwnBA.lt (Q00 e_w62 s16)
 have l65_17 := OwnBA.lt (Q00 e_w62 s17)
 refine Q1t hr Q0i s109 s108 ?_; clear hr; intro a65 w65 hc hu hr hs
 have hb : Below w.heap.size w64 w65 := hc.below e_w.size l65.1
 revert s17; revert s16; revert s12; revert s10; revert s2; revert s0; refine kp6 hs rfl ?_; intro s0 s2 s10 s12 s16 s17
 revert s11; revert s15; refine kp2 hs rfl ?_; intro s15 s11
 clear s108 s109
 replace s10 := PxS.other (Q00 e_w62 s10) hc (by omega)
 replace s12 := hu _ _ _ (Q00 e_w62 s12)
 replace s16 := OwnBA.other (Q00 e_w62 s16) hc (by omega)
 replace s17 := OwnBA.other (Q00 e_w62 s17) hc (by omega)
 replace e_w := e_w.below (Nat.le_refl _) hb
 clear e_w62
 replace s15 := anyw (w2 := w65) s15
 replace s11 := anyw (w2 := w65) s11
 clear hu hs hc hb
 refine wpList_nil ?_
 replace s12 := OwnBA.cast s12 (show _ = natA l Sa n dst from Qei hn9 (by rw [hl11]; omega))
 refine es ?_
 refine sq ?_
 refine Q04 218 [[(11, none)], [(110, some 0)]] [?b66_0, ?b66_1] Q07 hr ?t66 ?o66 ?_
 case o66 =>
  apply oc0; intro A W hx hf
  exact Q01 (a0 := a65) (r0 hf)
  apply oc0; intro A W hx hf
  exact Q42 (p1 s11 hx (q0 ?b66_0 A W 110 hf))
  exact onn
 case t66 => exact inferInstance
 clear hr; intro a67 w67 x hr hd hs
 revert s15; revert s17; revert s16; revert s10; revert s2; revert s0; refine kp6 hs rfl ?_; intro s0 s2 s10 s16 s17 s15
 revert s12; refine kp1 hs rfl ?_; intro s12
 clear s11
 have s111 := fa ?b66_1 a67 w67 111 (hd 1 111 rfl)
 replace e_w := e_w.trans x
 have e_w65 := x; clear hd hs x
 refine et ?_
 refine Q2k (fun A W => Fr 218 A ∧ Same Q5y a67 A ∧ Ext w W ∧ (PxS g4_10 w.heap.size [1, 1, 16, 1, 16, 1, 1, 1, 1, 1, 1, 1] (pktF (natK l)) 0) (A.eval (.tmp 10)) W ∧ (OwnBA g15 w.heap.size 5 (natB l Sa n dst)) (A.eval (.tmp 12)) W ∧ (OwnBA g41 w.heap.size 5 (Q7z l dst)) (A.eval (.tmp 16)) W ∧ (OwnBA δ w.heap.size 5 (Q2n l Sa)) (A.eval (.tmp 17)) W) ?cut68 ?_
 case cut68 =>
  have m68 : Same Q5y a67 a67 := Same.rfl
  refine wp_cond_split (show _ = _ from s111) (fun h6 => ?_) (fun h6 => ?_)
  ·
   have h6 : Q1v l = false := by simpa using h6
   refine sq ?_
   refine Q04 218 [[(10, none)], [(112, some 0)], [(113, some 1)], [(114, some 2)]] [?b70_0, ?b70_1, ?b70_2, ?b70_2] Q07 hr ?t70 ?o70 ?_
   case o70 =>
    apply oc0; intro A W hx hf
    exact Q02 9 tu37 (k := 3) rfl Q0k rfl (o2 s10 e_w65 hx (r0 hf)) rfl
    apply oc0; intro A W hx hf
    exact Q09 tu3 rfl (q0 ?b70_0 A W 112 hf) rfl
    apply oc0; intro A W hx hf
    exact Q0h (q0 ?b70_1 A W 113 hf) (ec A (.int .i64 10)) (by show (-9223372036854775808 : Int) ≤ (pkA l : Int) + 10 ∧ (pkA l : Int) + 10 ≤ 9223372036854775807; omega)
    apply oc0; intro A W hx hf
    exact Q03 (q0 ?b70_2 A W 114 hf)
    exact onn
   case t70 => exact inferInstance
   clear hr; intro a71 w71 x hr hd hs
   revert s15; revert s17; revert s16; revert s10; revert s2; revert s0; refine kp6 hs rfl ?_; intro s0 s2 s10 s16 s17 s15
   revert s12; refine kp1 hs rfl ?_; intro s12
   clear s111
   have s19 := fa ?b70_2 a71 w71 19 (hd 3 19 rfl)
   replace e_w := e_w.trans x
   replace e_w65 := e_w65.trans x
   replace m68 := m68.tr hs rfl; clear hd hs x
   replace s19 := Is.int s19 (show _ = (ip12 l : Int) from by show (pkA l : Int) + 10 = _; omega)
   have hq7 := np3 h6
   have hz1 := Q3b ((natA l Sa n dst)[ip12 l]'(by omega))
   have hz2 := Q3b ((natA l Sa n dst)[ip12 l + 1]'(by omega))
   have hwd := (Qad (l := natA l Sa n dst) (k := ip12 l) (by omega) rfl rfl).trans (Qig b hA (by omega) (by omega) (by omega))
   refine es ?_
   refine Q04 218 [[(12, none)], [(19, none)], [(115, some 0), (116, some 1)], [(117, some 2)], [(118, some 3)], [(119, some 4)], [(12, none)], [(19, none)], [(122, some 7)], [(121, some 6), (123, some 8)], [(124, some 9)], [(125, some 10)], [(120, some 5), (126, some 11)], [(16, none)], [(17, none)], [(127, some 12), (128, some 13), (129, some 14)], [(130, some 15)]] [?b72_0, ?b72_1, ?b72_2, ?b72_3, ?b72_4, ?b72_5, ?b72_6, ?b72_7, ?b72_8, ?b72_9, ?b72_10, ?b72_11, ?b72_12, ?b72_13, ?b72_14, ?b72_15, ?b72_15] Q07 hr ?t72 ?o72 ?_
   case o72 =>
    apply oc0; intro A W hx hf
    exact Q01 (a0 := a71) (r0 hf)
    apply oc0; intro A W hx hf
    exact Q01 (a0 := a71) (r0 hf)
    apply oc0; intro A W hx hf
    exact Q0e (ip12 l) tu22 Q0i (OwnBA.bs (p2 s12 e_w65 hx (q0 ?b72_0 A W 115 hf))) (p1 s19 hx (q1 ?b72_1 A W 116 hf)) (by omega)
    apply oc0; intro A W hx hf
    exact Q0q tu5 rfl (q0 ?b72_2 A W 117 hf)
    apply oc0; intro A W hx hf
    exact Q1c tu5 tu3 (by decide) (q0 ?b72_3 A W 118 hf)
    apply oc0; intro A W hx hf
    exact Q2p (ec A (.int .i64 256)) (q0 ?b72_4 A W 119 hf) (by omega)
    apply oc0; intro A W hx hf
    exact Q01 (a0 := a71) (r0 hf)
    apply oc0; intro A W hx hf
    exact Q01 (a0 := a71) (r0 hf)
    apply oc0; intro A W hx hf
    exact Q0h (p1 s19 hx (q0 ?b72_7 A W 122 hf)) (ec A (.int .i64 1)) (by omega)
    apply oc0; intro A W hx hf
    exact Q0e (ip12 l + 1) tu22 Q0i (OwnBA.bs (p2 s12 e_w65 hx (q0 ?b72_6 A W 121 hf))) (Is.int (q1 ?b72_8 A W 123 hf) (by omega)) (by omega)
    apply oc0; intro A W hx hf
    exact Q0q tu5 rfl (q0 ?b72_9 A W 124 hf)
    apply oc0; intro A W hx hf
    exact Q1c tu5 tu3 (by decide) (q0 ?b72_10 A W 125 hf)
    apply oc0; intro A W hx hf
    exact Q0h (q0 ?b72_5 A W 120 hf) (q1 ?b72_11 A W 126 hf) (by omega)
    apply oc0; intro A W hx hf
    exact Q01 (a0 := a71) (r0 hf)
    apply oc0; intro A W hx hf
    exact Q01 (a0 := a71) (r0 hf)
    apply oc0; intro A W hx hf
    exact Q26 Qi2 (Q89 (Is.int (q0 ?b72_12 A W 127 hf) hwd) (OwnBA.bs (p2 s16 e_w65 hx (q1 ?b72_13 A W 128 hf))) (OwnBA.bs (p2 s17 e_w65 hx (q2 ?b72_14 A W 129 hf))) (by exact hw1) (by exact hol) (by omega))
    apply oc0; intro A W hx hf
    exact Q03 (q0 ?b72_15 A W 130 hf)
    exact onn
   case t72 => exact inferInstance
   clear hr; intro a73 w73 x hr hd hs
   revert s15; revert s17; revert s16; revert s10; revert s2; revert s0; refine kp6 hs rfl ?_; intro s0 s2 s10 s16 s17 s15
   revert s19; revert s12; refine kp2 hs rfl ?_; intro s12 s19
   have s20 := fa ?b72_15 a73 w73 20 (hd 16 20 rfl)
   replace e_w := e_w.trans x
   replace e_w65 := e_w65.trans x
   have e_w71 := x
   replace m68 := m68.tr hs rfl; clear hd hs x
   replace s20 := Is.int s20 (show _ = Qg5 l Sa dst from rfl)
   have hwb := Qhg l Sa dst
   refine es ?_
   refine Q05 (l := [_, _, _, _, _, _]) (rest := [_]) 218 [[(12, none)], [(19, none)], [(20, none)], [(133, some 2)], [(134, some 3)], [(131, some 0), (132, some 1)]] [?b74_0, ?b74_1, ?b74_2, ?b74_3, ?b74_4, ?b74_5] hr ?t74 ?o74 ?_
   case o74 =>
    apply oc0; intro A W hx hf
    exact Q01 (a0 := a73) (r0 hf)
    apply oc0; intro A W hx hf
    exact Q01 (a0 := a73) (r0 hf)
    apply oc0; intro A W hx hf
    exact Q01 (a0 := a73) (r0 hf)
    apply oc0; intro A W hx hf
    exact Q30 (by decide) (p1 s20 hx (q0 ?b74_2 A W 133 hf)) (ec A (.int .i64 256))
    apply oc0; intro A W hx hf
    exact Q18 tu3 tu5 (q0 ?b74_3 A W 134 hf)
    apply oc0; intro A W hx hf
    exact Q1s (ip12 l) tu22 Q0i (p2 s12 e_w65 hx (q0 ?b74_0 A W 131 hf)) (p2 s19 e_w71 hx (q1 ?b74_1 A W 132 hf)) (by rw [hal]; omega)
    exact onn
   case t74 => exact inferInstance
   clear hr; intro a75 w75 x hr hd hs
   revert s15; revert s17; revert s16; revert s10; revert s2; revert s0; refine kp6 hs rfl ?_; intro s0 s2 s10 s16 s17 s15
   revert s20; revert s19; revert s12; refine kp3 hs rfl ?_; intro s12 s19 s20
   have s135 := fa ?b74_4 a75 w75 135 (hd 4 135 rfl)
   have s136 := fa ?b74_5 a75 w75 136 (hd 5 136 rfl)
   replace e_w := e_w.trans x
   replace e_w65 := e_w65.trans x
   replace e_w71 := e_w71.trans x
   have e_w73 := x
   replace m68 := m68.tr hs rfl; clear hd hs x
   have z76 := EpA.lt s136
   have l76 := (show (g15 = 0 ∨ w.heap.size < g15) ∧ True from ⟨by omega, trivial⟩)
   have l76_10 := PxS.lt (Q00 e_w65 s10)
   have l76_16 := OwnBA.lt (Q00 e_w65 s16)
   have l76_17 := OwnBA.lt (Q00 e_w65 s17)
   refine Q1t hr Q0i s136 s135 ?_; clear hr; intro a76 w76 hc hu hr hs
   have hb : Below w.heap.size w75 w76 := hc.below e_w.size l76.1
   revert s15; revert s17; revert s16; revert s10; revert s2; revert s0; refine kp6 hs rfl ?_; intro s0 s2 s10 s16 s17 s15
   revert s20; revert s19; revert s12; refine kp3 hs rfl ?_; intro s12 s19 s20
   clear s135 s136
   replace s10 := PxS.other (Q00 e_w65 s10) hc (by omega)
   replace s16 := OwnBA.other (Q00 e_w65 s16) hc (by omega)
   replace s17 := OwnBA.other (Q00 e_w65 s17) hc (by omega)
   replace s12 := hu _ _ _ (Q00 e_w65 s12)
   replace e_w := e_w.below (Nat.le_refl _) hb
   clear e_w65
   clear e_w71
   clear e_w73
   replace s15 := anyw (w2 := w76) s15
   replace s19 := anyw (w2 := w76) s19
   replace s20 := anyw (w2 := w76) s20
   replace m68 := m68.tr hs rfl
   clear hu hs hc hb
   refine wpList_nil ?_
   refine et ?_
   refine Q05 (l := [_, _, _, _, _, _, _]) (rest := [_]) 218 [[(12, none)], [(19, none)], [(138, some 1)], [(20, none)], [(140, some 3)], [(141, some 4)], [(137, some 0), (139, some 2)]] [?b77_0, ?b77_1, ?b77_2, ?b77_3, ?b77_4, ?b77_5, ?b77_6] hr ?t77 ?o77 ?_
   case o77 =>
    apply oc0; intro A W hx hf
    exact Q01 (a0 := a76) (r0 hf)
    apply oc0; intro A W hx hf
    exact Q01 (a0 := a76) (r0 hf)
    apply oc0; intro A W hx hf
    exact Q0h (p1 s19 hx (q0 ?b77_1 A W 138 hf)) (ec A (.int .i64 1)) (by omega)
    apply oc0; intro A W hx hf
    exact Q01 (a0 := a76) (r0 hf)
    apply oc0; intro A W hx hf
    exact Q31 (by decide) (p1 s20 hx (q0 ?b77_3 A W 140 hf)) (ec A (.int .i64 256))
    apply oc0; intro A W hx hf
    exact Q18 tu3 tu5 (q0 ?b77_4 A W 141 hf)
    apply oc0; intro A W hx hf
    exact Q1s (ip12 l + 1) tu22 Q0i (p1 s12 hx (q0 ?b77_0 A W 137 hf)) (Is.int (q1 ?b77_2 A W 139 hf) (by omega)) (by rw [List.length_set, hal]; omega)
    exact onn
   case t77 => exact inferInstance
   clear hr; intro a78 w78 x hr hd hs
   revert s12; revert s17; revert s16; revert s10; revert s2; revert s0; refine kp6 hs rfl ?_; intro s0 s2 s10 s16 s17 s12
   revert s15; refine kp1 hs rfl ?_; intro s15
   clear s19 s20
   have s142 := fa ?b77_5 a78 w78 142 (hd 5 142 rfl)
   have s143 := fa ?b77_6 a78 w78 143 (hd 6 143 rfl)
   replace e_w := e_w.trans x
   have e_w76 := x
   replace m68 := m68.tr hs rfl; clear hd hs x
   have z79 := EpA.lt s143
   have l79 := (show (g15 = 0 ∨ w.heap.size < g15) ∧ True from ⟨by omega, trivial⟩)
   have l79_10 := PxS.lt (Q00 e_w76 s10)
   have l79_16 := OwnBA.lt (Q00 e_w76 s16)
   have l79_17 := OwnBA.lt (Q00 e_w76 s17)
   refine Q1t hr Q0i s143 s142 ?_; clear hr; intro a79 w79 hc hu hr hs
   have hb : Below w.heap.size w78 w79 := hc.below e_w.size l79.1
   revert s12; revert s17; revert s16; revert s10; revert s2; revert s0; refine kp6 hs rfl ?_; intro s0 s2 s10 s16 s17 s12
   revert s15; refine kp1 hs rfl ?_; intro s15
   clear s142 s143
   replace s10 := PxS.other (Q00 e_w76 s10) hc (by omega)
   replace s16 := OwnBA.other (Q00 e_w76 s16) hc (by omega)
   replace s17 := OwnBA.other (Q00 e_w76 s17) hc (by omega)
   replace s12 := hu _ _ _ (Q00 e_w76 s12)
   replace e_w := e_w.below (Nat.le_refl _) hb
   clear e_w76
   replace s15 := anyw (w2 := w79) s15
   replace m68 := m68.tr hs rfl
   clear hu hs hc hb
   refine wpList_nil ?_
   replace s12 := OwnBA.cast s12 (show _ = natB l Sa n dst from (Qei hwb (by rw [hal]; omega)).trans (Qc9 h6))
   refine et ?_
   refine ⟨hr, m68, e_w, ?_, ?_, ?_, ?_⟩
   · exact s10
   · first | exact s12 | exact OwnBA.cast s12 (Q8t h6)
   · exact s16
   · exact s17
  have h6 : Q1v l = true := by simpa using h6
  refine wp_skip ?_
  refine et ?_
  refine ⟨hr, m68, e_w, ?_, ?_, ?_, ?_⟩
  · exact (Q00 e_w65 s10)
  · first | exact (Q00 e_w65 s12) | exact OwnBA.cast (Q00 e_w65 s12) (Q8t h6)
  · exact (Q00 e_w65 s16)
  · exact (Q00 e_w65 s17)
 intro a68 w68 hI
 clear e_w
 clear e_w65
 clear hr; obtain ⟨hr, hs, e_w, u10, u12, u16, u17⟩ := hI
 revert s15; revert s2; revert s0; refine kp3 hs rfl ?_; intro s0 s2 s15
 clear s10 s16 s17 s12 s111
 have s10 := u10; clear u10
 have s12 := u12; clear u12
 have s16 := u16; clear u16
 have s17 := u17; clear u17
 replace s15 := anyw (w2 := w68) s15
 clear hs
 refine sq ?_
 refine Q04 218 [[(10, none)], [(144, some 0)], [(10, none)], [(146, some 2)], [(147, some 3)], [(148, some 4)], [(145, some 1), (149, some 5)], [(150, some 6)]] [?b80_0, ?b80_1, ?b80_2, ?b80_3, ?b80_4, ?b80_5, ?b80_6, ?b80_6] Q07 hr ?t80 ?o80 ?_
 case o80 =>
  apply oc0; intro A W hx hf
  exact Q02 10 tu37 (k := 4) rfl Q0k rfl (o1 s10 hx (r0 hf)) rfl
  apply oc0; intro A W hx hf
  exact Q09 tu3 rfl (q0 ?b80_0 A W 144 hf) rfl
  apply oc0; intro A W hx hf
  exact Q02 1 tu37 (k := 1) rfl Q3f rfl (o1 s10 hx (r0 hf)) rfl
  apply oc0; intro A W hx hf
  exact Q02 5 tu35 (k := 2) rfl Q0k rfl (q0 ?b80_2 A W 146 hf) rfl
  apply oc0; intro A W hx hf
  exact Q09 tu3 rfl (q0 ?b80_3 A W 147 hf) rfl
  apply oc0; intro A W hx hf
  exact Q1d Qln (Qal (q0 ?b80_4 A W 148 hf))
  apply oc0; intro A W hx hf
  exact Q0h (q0 ?b80_1 A W 145 hf) (q1 ?b80_5 A W 149 hf) (by show (-9223372036854775808 : Int) ≤ (Q32 l : Int) + Q1u (pkN l).1.proto ∧ (Q32 l : Int) + Q1u (pkN l).1.proto ≤ 9223372036854775807; omega)
  apply oc0; intro A W hx hf
  exact Q03 (q0 ?b80_6 A W 150 hf)
  exact onn
 case t80 => exact inferInstance
 clear hr; intro a81 w81 x hr hd hs
 revert s17; revert s16; revert s12; revert s10; revert s2; revert s0; refine kp6 hs rfl ?_; intro s0 s2 s10 s12 s16 s17
 revert s15; refine kp1 hs rfl ?_; intro s15
 have s21 := fa ?b80_6 a81 w81 21 (hd 7 21 rfl)
 replace e_w := e_w.trans x
 have e_w68 := x; clear hd hs x
 replace s21 := Is.int s21 (show _ = (ck12 l : Int) from by show (Q32 l : Int) + Q1u (pkN l).1.proto = _; omega)
 have hz3 := Q3b ((natB l Sa n dst)[ck12 l]'(by omega))
 have hz4 := Q3b ((natB l Sa n dst)[ck12 l + 1]'(by omega))
 have hwd2 := (Qad (l := natB l Sa n dst) (k := ck12 l) (by omega) rfl rfl).trans (Qih b hA)
 refine es ?_
 refine Q04 218 [[(12, none)], [(21, none)], [(151, some 0), (152, some 1)], [(153, some 2)], [(154, some 3)], [(155, some 4)], [(12, none)], [(21, none)], [(158, some 7)], [(157, some 6), (159, some 8)], [(160, some 9)], [(161, some 10)], [(156, some 5), (162, some 11)], [(163, some 12)]] [?b82_0, ?b82_1, ?b82_2, ?b82_3, ?b82_4, ?b82_5, ?b82_6, ?b82_7, ?b82_8, ?b82_9, ?b82_10, ?b82_11, ?b82_12, ?b82_12] Q07 hr ?t82 ?o82 ?_
 case o82 =>
  apply oc0; intro A W hx hf
  exact Q01 (a0 := a81) (r0 hf)
  apply oc0; intro A W hx hf
  exact Q01 (a0 := a81) (r0 hf)
  apply oc0; intro A W hx hf
  exact Q0e (ck12 l) tu22 Q0i (OwnBA.bs (p2 s12 e_w68 hx (q0 ?b82_0 A W 151 hf))) (p1 s21 hx (q1 ?b82_1 A W 152 hf)) (by omega)
  apply oc0; intro A W hx hf
  exact Q0q tu5 rfl (q0 ?b82_2 A W 153 hf)
  apply oc0; intro A W hx hf
  exact Q1c tu5 tu3 (by decide) (q0 ?b82_3 A W 154 hf)
  apply oc0; intro A W hx hf
  exact Q2p (ec A (.int .i64 256)) (q0 ?b82_4 A W 155 hf) (by omega)
  apply oc0; intro A W hx hf
  exact Q01 (a0 := a81) (r0 hf)
  apply oc0; intro A W hx hf
  exact Q01 (a0 := a81) (r0 hf)
  apply oc0; intro A W hx hf
  exact Q0h (p1 s21 hx (q0 ?b82_7 A W 158 hf)) (ec A (.int .i64 1)) (by omega)
  apply oc0; intro A W hx hf
  exact Q0e (ck12 l + 1) tu22 Q0i (OwnBA.bs (p2 s12 e_w68 hx (q0 ?b82_6 A W 157 hf))) (Is.int (q1 ?b82_8 A W 159 hf) (by omega)) (by omega)
  apply oc0; intro A W hx hf
  exact Q0q tu5 rfl (q0 ?b82_9 A W 160 hf)
  apply oc0; intro A W hx hf
  exact Q1c tu5 tu3 (by decide) (q0 ?b82_10 A W 161 hf)
  apply oc0; intro A W hx hf
  exact Q0h (q0 ?b82_5 A W 156 hf) (q1 ?b82_11 A W 162 hf) (by omega)
  apply oc0; intro A W hx hf
  exact Q03 (q0 ?b82_12 A W 163 hf)
  exact onn
 case t82 => exact inferInstance
 clear hr; intro a83 w83 x hr hd hs
 revert s17; revert s16; revert s12; revert s10; revert s2; revert s0; refine kp6 hs rfl ?_; intro s0 s2 s10 s12 s16 s17
 revert s21; revert s15; refine kp2 hs rfl ?_; intro s15 s21
 have s22 := fa ?b82_12 a83 w83 22 (hd 13 22 rfl)
 replace e_w := e_w.trans x
 replace e_w68 := e_w68.trans x
 have e_w81 := x; clear hd hs x
 replace s22 := Is.int s22 hwd2
 refine es ?_
 refine sq ?_
 refine Q04 218 [[(10, none)], [(164, some 0)], [(165, some 1)], [(166, some 2)], [(167, some 3)], [(22, none), (168, some 4)], [(169, some 5), (168, some 4)], [(168, some 4), (170, some 6)]] [?b84_0, ?b84_1, ?b84_2, ?b84_3, ?b84_3, ?b84_5, ?b84_6, ?b84_7] Q07 hr ?t84 ?o84 ?_
 case o84 =>
  apply oc0; intro A W hx hf
  exact Q02 1 tu37 (k := 1) rfl Q3f rfl (o2 s10 e_w68 hx (r0 hf)) rfl
  apply oc0; intro A W hx hf
  exact Q02 5 tu35 (k := 2) rfl Q0k rfl (q0 ?b84_0 A W 164 hf) rfl
  apply oc0; intro A W hx hf
  exact Q09 tu3 rfl (q0 ?b84_1 A W 165 hf) rfl
  apply oc0; intro A W hx hf
  exact Q1f (q0 ?b84_2 A W 166 hf) (ec A (.int .i64 17))
  apply oc0; intro A W hx hf
  exact Q0p (q0 ?b84_3 A W 167 hf)
  refine ocg 168 ?_ (fun A W hx hf => ?_) ?_
  rfl
  exact gd_t (q1 ?b84_3 A W 168 hf) (fun hc => Q01 (a0 := a83) (r0 hf))
  refine ocg 168 ?_ (fun A W hx hf => ?_) ?_
  rfl
  exact gd_t (q1 ?b84_3 A W 168 hf) (fun hc => Q1f (p1 s22 hx (G.get (q0 ?b84_5 A W 169 hf) hc)) (ec A (.int .i64 0)))
  apply oc0; intro A W hx hf
  exact Q2s (q0 ?b84_3 A W 168 hf) (q1 ?b84_6 A W 170 hf)
  exact onn
 case t84 => exact inferInstance
 clear hr; intro a85 w85 x hr hd hs
 revert s17; revert s16; revert s12; revert s10; revert s2; revert s0; refine kp6 hs rfl ?_; intro s0 s2 s10 s12 s16 s17
 revert s22; revert s21; revert s15; refine kp3 hs rfl ?_; intro s15 s21 s22
 have s171 := fa ?b84_7 a85 w85 171 (hd 7 171 rfl)
 replace e_w := e_w.trans x
 replace e_w68 := e_w68.trans x
 replace e_w81 := e_w81.trans x
 have e_w83 := x; clear hd hs x
 refine et ?_
 refine wp_cond_split (show _ = _ from s171) (fun hu => ?_) (fun hu => ?_)
 ·
  have hu := Qlf hu
  refine sq ?_
  refine Q04 218 [[(12, none)], [(172, some 0)], []] [?b87_0, ?b87_0, ?b87_2] Q07 hr ?t87 ?o87 ?_
  case o87 =>
   apply oc0; intro A W hx hf
   exact Q01 (a0 := a85) (r0 hf)
   apply oc0; intro A W hx hf
   exact Q03 (q0 ?b87_0 A W 172 hf)
   apply oc0; intro A W hx hf
   exact Q06
   exact onn
  case t87 => exact inferInstance
  clear hr; intro a88 w88 x hr hd hs
  have u8 := mv s12 (fa ?b87_0 a88 w88 8 (hd 1 8 rfl))
  clear s0 s2 s10 s12 s16 s17 s15 s21 s22 s171
  have s8 := u8; clear u8
  have s9 := fa ?b87_2 a88 w88 9 (hd 2 9 rfl)
  replace e_w := e_w.trans x
  replace e_w68 := e_w68.trans x
  clear e_w81
  clear e_w83; clear hd hs x
  replace s8 := OwnBA.cast s8 (Qf8 hu)
  refine et ?_
  refine wp_ret ?_
  refine Q0d ?_
  refine Q50 Try.results12 hr e_w ?_
  first | (rw [hno]; exact ⟨_, _, rfl, OwnB.mono (Q00 e_w68 s8).own hB, s9⟩) | (rw [hyes.2]; exact ⟨_, _, rfl, OwnB.mono (Q00 e_w68 s8).own hB, s9⟩)
 have hu := Qlg hu
 refine wp_skip ?_
 refine es ?_
 refine Q04 218 [[(22, none)], [(16, none)], [(17, none)], [(173, some 0), (174, some 1), (175, some 2)], [(176, some 3)]] [?b89_0, ?b89_1, ?b89_2, ?b89_3, ?b89_3] Q07 hr ?t89 ?o89 ?_
 case o89 =>
  apply oc0; intro A W hx hf
  exact Q01 (a0 := a85) (r0 hf)
  apply oc0; intro A W hx hf
  exact Q01 (a0 := a85) (r0 hf)
  apply oc0; intro A W hx hf
  exact Q01 (a0 := a85) (r0 hf)
  apply oc0; intro A W hx hf
  exact Q26 Qi2 (Q89 (p2 s22 e_w83 hx (q0 ?b89_0 A W 173 hf)) (OwnBA.bs (p2 s16 e_w68 hx (q1 ?b89_1 A W 174 hf))) (OwnBA.bs (p2 s17 e_w68 hx (q2 ?b89_2 A W 175 hf))) (by exact hw2) (by exact hol) (by omega))
  apply oc0; intro A W hx hf
  exact Q03 (q0 ?b89_3 A W 176 hf)
  exact onn
 case t89 => exact inferInstance
 clear hr; intro a90 w90 x hr hd hs
 revert s21; revert s15; revert s12; revert s10; revert s2; revert s0; refine kp6 hs rfl ?_; intro s0 s2 s10 s12 s15 s21
 clear s16 s17 s22 s171
 have s22 := fa ?b89_3 a90 w90 22 (hd 4 22 rfl)
 replace e_w := e_w.trans x
 replace e_w68 := e_w68.trans x
 replace e_w81 := e_w81.trans x
 clear e_w83; clear hd hs x
 refine es ?_
 refine Q04 218 [[(22, none)], [(0, none)], [(15, none)], [(178, some 1), (179, some 2)], [(180, some 3)], [(0, none)], [(15, none)], [(183, some 6)], [(182, some 5), (184, some 7)], [(185, some 8)], [(181, some 4), (186, some 9)], [(2, none)], [(188, some 11)], [(189, some 12)], [(2, none)], [(191, some 14)], [(192, some 15)], [(190, some 13), (193, some 16)], [(177, some 0), (187, some 10), (194, some 17)], [(195, some 18)]] [?b91_0, ?b91_1, ?b91_2, ?b91_3, ?b91_4, ?b91_5, ?b91_6, ?b91_7, ?b91_8, ?b91_9, ?b91_10, ?b91_11, ?b91_12, ?b91_13, ?b91_14, ?b91_15, ?b91_16, ?b91_17, ?b91_18, ?b91_18] Q07 hr ?t91 ?o91 ?_
 case o91 =>
  apply oc0; intro A W hx hf
  exact Q01 (a0 := a90) (r0 hf)
  apply oc0; intro A W hx hf
  exact Q01 (a0 := a90) (r0 hf)
  apply oc0; intro A W hx hf
  exact Q01 (a0 := a90) (r0 hf)
  apply oc0; intro A W hx hf
  exact Q0e (pl12 l dst) tu22 Q0i (p2 s0 e_w hx (q0 ?b91_1 A W 178 hf)) (p2 s15 e_w68 hx (q1 ?b91_2 A W 179 hf)) (by omega)
  apply oc0; intro A W hx hf
  exact Q0q tu5 rfl (q0 ?b91_3 A W 180 hf)
  apply oc0; intro A W hx hf
  exact Q01 (a0 := a90) (r0 hf)
  apply oc0; intro A W hx hf
  exact Q01 (a0 := a90) (r0 hf)
  apply oc0; intro A W hx hf
  exact Q0h (p2 s15 e_w68 hx (q0 ?b91_6 A W 183 hf)) (ec A (.int .i64 1)) (by omega)
  apply oc0; intro A W hx hf
  exact Q0e (pl12 l dst + 1) tu22 Q0i (p2 s0 e_w hx (q0 ?b91_5 A W 182 hf)) (Is.int (q1 ?b91_7 A W 184 hf) (by omega)) (by omega)
  apply oc0; intro A W hx hf
  exact Q0q tu5 rfl (q0 ?b91_8 A W 185 hf)
  apply oc0; intro A W hx hf
  exact Q1m [(.tmp 181), (.tmp 186)] [_, _] tu22 Q0i Q2v rfl rfl (by decide) (PartsOk.cons (q0 ?b91_4 A W 181 hf) (PartsOk.cons (q1 ?b91_9 A W 186 hf) (PartsOk.nil)))
  apply oc0; intro A W hx hf
  exact Q01 (a0 := a90) (r0 hf)
  apply oc0; intro A W hx hf
  exact Q30 (by decide) (p2 s2 e_w hx (q0 ?b91_11 A W 188 hf)) (ec A (.int .i64 256))
  apply oc0; intro A W hx hf
  exact Q18 tu3 tu5 (q0 ?b91_12 A W 189 hf)
  apply oc0; intro A W hx hf
  exact Q01 (a0 := a90) (r0 hf)
  apply oc0; intro A W hx hf
  exact Q31 (by decide) (p2 s2 e_w hx (q0 ?b91_14 A W 191 hf)) (ec A (.int .i64 256))
  apply oc0; intro A W hx hf
  exact Q18 tu3 tu5 (q0 ?b91_15 A W 192 hf)
  apply oc0; intro A W hx hf
  exact Q1m [(.tmp 190), (.tmp 193)] [_, _] tu22 Q0i Q2v rfl rfl (by decide) (PartsOk.cons (q0 ?b91_13 A W 190 hf) (PartsOk.cons (q1 ?b91_16 A W 193 hf) (PartsOk.nil)))
  apply oc0; intro A W hx hf
  exact Q26 Qi2 (Q89 (p1 s22 hx (q0 ?b91_0 A W 177 hf)) (Bs.cast (q1 ?b91_10 A W 187 hf) (Qka (by omega))) (Bs.cast (q2 ?b91_17 A W 194 hf) (Qjm hn9)) (by exact hwp) (by unfold subl; simp; omega) (by rw [Q13]; decide))
  apply oc0; intro A W hx hf
  exact Q03 (q0 ?b91_18 A W 195 hf)
  exact onn
 case t91 => exact inferInstance
 clear hr; intro a92 w92 x hr hd hs
 revert s21; revert s12; revert s10; refine kp3 hs rfl ?_; intro s10 s12 s21
 clear s0 s2 s15 s22
 have s22 := fa ?b91_18 a92 w92 22 (hd 19 22 rfl)
 replace e_w := e_w.trans x
 replace e_w68 := e_w68.trans x
 replace e_w81 := e_w81.trans x; clear hd hs x
 replace s22 := Is.int s22 (show _ = Qc7 l Sa n dst from rfl)
 have hwc := Qde (q := (pkN l).1.proto) (Qhh l Sa n dst)
 refine es ?_
 refine sq ?_
 refine Q04 218 [[(10, none)], [(196, some 0)], [(197, some 1)], [(198, some 2)], [(199, some 3)], [(22, none), (200, some 4)], [(201, some 5), (200, some 4)], [(200, some 4), (202, some 6)]] [?b93_0, ?b93_1, ?b93_2, ?b93_3, ?b93_3, ?b93_5, ?b93_6, ?b93_7] Q07 hr ?t93 ?o93 ?_
 case o93 =>
  apply oc0; intro A W hx hf
  exact Q02 1 tu37 (k := 1) rfl Q3f rfl (o2 s10 e_w68 hx (r0 hf)) rfl
  apply oc0; intro A W hx hf
  exact Q02 5 tu35 (k := 2) rfl Q0k rfl (q0 ?b93_0 A W 196 hf) rfl
  apply oc0; intro A W hx hf
  exact Q09 tu3 rfl (q0 ?b93_1 A W 197 hf) rfl
  apply oc0; intro A W hx hf
  exact Q1f (q0 ?b93_2 A W 198 hf) (ec A (.int .i64 17))
  apply oc0; intro A W hx hf
  exact Q0p (q0 ?b93_3 A W 199 hf)
  refine ocg 200 ?_ (fun A W hx hf => ?_) ?_
  rfl
  exact gd_t (q1 ?b93_3 A W 200 hf) (fun hc => Q01 (a0 := a92) (r0 hf))
  refine ocg 200 ?_ (fun A W hx hf => ?_) ?_
  rfl
  exact gd_t (q1 ?b93_3 A W 200 hf) (fun hc => Q1f (p1 s22 hx (G.get (q0 ?b93_5 A W 201 hf) hc)) (ec A (.int .i64 0)))
  apply oc0; intro A W hx hf
  exact Q2s (q0 ?b93_3 A W 200 hf) (q1 ?b93_6 A W 202 hf)
  exact onn
 case t93 => exact inferInstance
 clear hr; intro a94 w94 x hr hd hs
 revert s22; revert s21; revert s12; refine kp3 hs rfl ?_; intro s12 s21 s22
 clear s10
 have s203 := fa ?b93_7 a94 w94 203 (hd 7 203 rfl)
 replace e_w := e_w.trans x
 replace e_w68 := e_w68.trans x
 replace e_w81 := e_w81.trans x
 have e_w92 := x; clear hd hs x
 refine et ?_
 refine Q2k (fun A W => Fr 218 A ∧ Same Q5z a94 A ∧ Ext w W ∧ (OwnBA g15 w.heap.size 5 (natB l Sa n dst)) (A.eval (.tmp 12)) W ∧ (Is (.int .i64 (pFix (pkN l).1.proto (Qc7 l Sa n dst)))) (A.eval (.tmp 22)) W) ?cut95 ?_
 case cut95 =>
  have m95 : Same Q5z a94 a94 := Same.rfl
  refine wp_cond_split (show _ = _ from s203) (fun hz9 => ?_) (fun hz9 => ?_)
  ·
   skip
   refine Q04 218 [[]] [?b97_0] Q07 hr ?t97 ?o97 ?_
   case o97 =>
    apply oc0; intro A W hx hf
    exact Q06
    exact onn
   case t97 => exact inferInstance
   clear hr; intro a98 w98 x hr hd hs
   revert s21; revert s12; refine kp2 hs rfl ?_; intro s12 s21
   clear s22 s203
   have s22 := fa ?b97_0 a98 w98 22 (hd 0 22 rfl)
   replace e_w := e_w.trans x
   replace e_w68 := e_w68.trans x
   replace e_w81 := e_w81.trans x
   clear e_w92
   replace m95 := m95.tr hs rfl; clear hd hs x
   refine et ?_
   refine ⟨hr, m95, e_w, ?_, ?_⟩
   · exact (Q00 e_w68 s12)
   · first | exact Is.int s22 (Qf9 hz9).symm | exact Is.int s22 (Qfa hz9).symm
  skip
  refine wp_skip ?_
  refine et ?_
  refine ⟨hr, m95, e_w, ?_, ?_⟩
  · exact (Q00 e_w68 s12)
  · first | exact Is.int (Q00 e_w92 s22) (Qf9 hz9).symm | exact Is.int (Q00 e_w92 s22) (Qfa hz9).symm
 intro a95 w95 hI
 clear e_w
 clear e_w68
 clear e_w81
 clear e_w92
 clear hr; obtain ⟨hr, hs, e_w, u12, u22⟩ := hI
 revert s21; refine kp1 hs rfl ?_; intro s21
 clear s12 s22 s203
 have s12 := u12; clear u12
 have s22 := u22; clear u22
 replace s21 := anyw (w2 := w95) s21
 clear hs
 refine sq ?_
 refine Q05 (l := [_, _, _, _, _, _]) (rest := [_]) 218 [[(12, none)], [(21, none)], [(22, none)], [(206, some 2)], [(207, some 3)], [(204, some 0), (205, some 1)]] [?b99_0, ?b99_1, ?b99_2, ?b99_3, ?b99_4, ?b99_5] hr ?t99 ?o99 ?_
 case o99 =>
  apply oc0; intro A W hx hf
  exact Q01 (a0 := a95) (r0 hf)
  apply oc0; intro A W hx hf
  exact Q01 (a0 := a95) (r0 hf)
  apply oc0; intro A W hx hf
  exact Q01 (a0 := a95) (r0 hf)
  apply oc0; intro A W hx hf
  exact Q30 (by decide) (p1 s22 hx (q0 ?b99_2 A W 206 hf)) (ec A (.int .i64 256))
  apply oc0; intro A W hx hf
  exact Q18 tu3 tu5 (q0 ?b99_3 A W 207 hf)
  apply oc0; intro A W hx hf
  exact Q1s (ck12 l) tu22 Q0i (p1 s12 hx (q0 ?b99_0 A W 204 hf)) (p1 s21 hx (q1 ?b99_1 A W 205 hf)) (by rw [hbl2]; omega)
  exact onn
 case t99 => exact inferInstance
 clear hr; intro a100 w100 x hr hd hs
 revert s21; revert s22; revert s12; refine kp3 hs rfl ?_; intro s12 s22 s21
 have s208 := fa ?b99_4 a100 w100 208 (hd 4 208 rfl)
 have s209 := fa ?b99_5 a100 w100 209 (hd 5 209 rfl)
 replace e_w := e_w.trans x
 have e_w95 := x; clear hd hs x
 have z101 := EpA.lt s209
 have l101 := (show (g15 = 0 ∨ w.heap.size < g15) ∧ True from ⟨by omega, trivial⟩)
 refine Q1t hr Q0i s209 s208 ?_; clear hr; intro a101 w101 hc hu hr hs
 have hb : Below w.heap.size w100 w101 := hc.below e_w.size l101.1
 revert s21; revert s22; revert s12; refine kp3 hs rfl ?_; intro s12 s22 s21
 clear s208 s209
 replace s12 := hu _ _ _ (Q00 e_w95 s12)
 replace e_w := e_w.below (Nat.le_refl _) hb
 clear e_w95
 replace s22 := anyw (w2 := w101) s22
 replace s21 := anyw (w2 := w101) s21
 clear hu hs hc hb
 refine wpList_nil ?_
 refine es ?_
 refine Q05 (l := [_, _, _, _, _, _, _]) (rest := [_]) 218 [[(12, none)], [(21, none)], [(211, some 1)], [(22, none)], [(213, some 3)], [(214, some 4)], [(210, some 0), (212, some 2)]] [?b102_0, ?b102_1, ?b102_2, ?b102_3, ?b102_4, ?b102_5, ?b102_6] hr ?t102 ?o102 ?_
 case o102 =>
  apply oc0; intro A W hx hf
  exact Q01 (a0 := a101) (r0 hf)
  apply oc0; intro A W hx hf
  exact Q01 (a0 := a101) (r0 hf)
  apply oc0; intro A W hx hf
  exact Q0h (p1 s21 hx (q0 ?b102_1 A W 211 hf)) (ec A (.int .i64 1)) (by omega)
  apply oc0; intro A W hx hf
  exact Q01 (a0 := a101) (r0 hf)
  apply oc0; intro A W hx hf
  exact Q31 (by decide) (p1 s22 hx (q0 ?b102_3 A W 213 hf)) (ec A (.int .i64 256))
  apply oc0; intro A W hx hf
  exact Q18 tu3 tu5 (q0 ?b102_4 A W 214 hf)
  apply oc0; intro A W hx hf
  exact Q1s (ck12 l + 1) tu22 Q0i (p1 s12 hx (q0 ?b102_0 A W 210 hf)) (Is.int (q1 ?b102_2 A W 212 hf) (by omega)) (by rw [List.length_set, hbl2]; omega)
  exact onn
 case t102 => exact inferInstance
 clear hr; intro a103 w103 x hr hd hs
 revert s12; refine kp1 hs rfl ?_; intro s12
 clear s22 s21
 have s215 := fa ?b102_5 a103 w103 215 (hd 5 215 rfl)
 have s216 := fa ?b102_6 a103 w103 216 (hd 6 216 rfl)
 replace e_w := e_w.trans x
 have e_w101 := x; clear hd hs x
 have z104 := EpA.lt s216
 have l104 := (show (g15 = 0 ∨ w.heap.size < g15) ∧ True from ⟨by omega, trivial⟩)
 refine Q1t hr Q0i s216 s215 ?_; clear hr; intro a104 w104 hc hu hr hs
 have hb : Below w.heap.size w103 w104 := hc.below e_w.size l104.1
 revert s12; refine kp1 hs rfl ?_; intro s12
 clear s215 s216
 replace s12 := hu _ _ _ (Q00 e_w101 s12)
 replace e_w := e_w.below (Nat.le_refl _) hb
 clear e_w101
 clear hu hs hc hb
 refine wpList_nil ?_
 replace s12 := OwnBA.cast s12 (show _ = natX l Sa n dst from (Qei hwc (by rw [hbl2]; omega)).trans (Qhm hu))
 refine es ?_
 refine Q04 218 [[(12, none)], [(217, some 0)], []] [?b105_0, ?b105_0, ?b105_2] Q07 hr ?t105 ?o105 ?_
 case o105 =>
  apply oc0; intro A W hx hf
  exact Q01 (a0 := a104) (r0 hf)
  apply oc0; intro A W hx hf
  exact Q03 (q0 ?b105_0 A W 217 hf)
  apply oc0; intro A W hx hf
  exact Q06
  exact onn
 case t105 => exact inferInstance
 clear hr; intro a106 w106 x hr hd hs
 have u8 := mv s12 (fa ?b105_0 a106 w106 8 (hd 1 8 rfl))
 clear s12
 have s8 := u8; clear u8
 have s9 := fa ?b105_2 a106 w106 9 (hd 2 9 rfl)
 replace e_w := e_w.trans x
 have e_w104 := x; clear hd hs x
 refine et ?_
 refine wp_ret ?_
 refine Q50 Try.results12 hr e_w ?_
 first | (rw [hno]; exact ⟨_, _, rfl, OwnB.mono (Q00 e_w104 s8).own hB, s9⟩) | (rw [hyes.2]; exact ⟨_, _, rfl, OwnB.mono (Q00 e_w104 s8).own hB, s9⟩)

end Go.Proofs.Ytlmdboaghojgiaa
