import Derived.Test.YtlmdboaghojgiaaZ
import Derived.Test.YtlmdboaghojgiaaY
import Derived.Test.YtlmdboaghojgiaaC12b
import Derived.Test.YtlmdboaghojgiaaC12r
import Derived.Test.YtlmdboaghojgiaaC11
import Derived.Test.YtlmdboaghojgiaaE12K
namespace Go.Proofs.Ytlmdboaghojgiaa
open Go.RowKit
set_option linter.unusedVariables false
set_option linter.unusedSimpArgs false
set_option maxRecDepth 4000
theorem Qlv {w : World}    :
    Calls Try.prog 20 #[] w (Ret (Is (TupV some11)) w) := by
 refine enter Try.func20 rfl Try.ntmps20 (k := 0) rfl (by decide) (fun a0 hr hargs => ?_)
 clear hargs
 refine sq ?_
 refine Q04 6 [[]] [?b1_0] Q08 hr ?t1 ?o1 ?_
 case o1 =>
  apply oc0; intro A W hx hf
  exact Q0y [(tupS tup0).flatten] [37] Q9r (by rfl) (by rfl) hx.size
  exact onn
 case t1 => exact inferInstance
 clear hr; intro a2 w2 x hr hd hs
 have s0 := fa ?b1_0 a2 w2 0 (hd 0 0 rfl)
 obtain ⟨g2_0, q2_0⟩ := PxN.at s0; clear s0; have n2_0 := PxS.lt q2_0
 have s0 := q2_0; clear q2_0
 have e_w := x; clear hd hs x
 refine es ?_
 refine Q06 (l := [_, _, _, _, _]) (rest := [_]) 6 [[], [(1, some 0)], [], [(3, some 2)], [(2, some 1), (4, some 3)]] [?b3_0, ?b3_1, ?b3_2, ?b3_3, ?b3_4] hr ?t3 ?o3 ?_
 case o3 =>
  apply oc0; intro A W hx hf
  exact Q71 [1, 2, 3, 4, 0, 0, 0, 0, 0, 0, 0, 0, 0, 0, 0, 0] [(0, (.int .u8 1)), (1, (.int .u8 2)), (2, (.int .u8 3)), (3, (.int .u8 4))] rfl (by kernel_rfl)
  apply oc0; intro A W hx hf
  exact Q1e [(1, (.tmp 1))] [(1, _)] Qip rfl (PartsC.agg (q0 ?b3_0 A W 1 hf) (PartsC.nil)) (by rfl)
  apply oc0; intro A W hx hf
  exact Q71 [5, 6, 7, 8, 0, 0, 0, 0, 0, 0, 0, 0, 0, 0, 0, 0] [(0, (.int .u8 5)), (1, (.int .u8 6)), (2, (.int .u8 7)), (3, (.int .u8 8))] rfl (by kernel_rfl)
  apply oc0; intro A W hx hf
  exact Q1e [(1, (.tmp 3))] [(1, _)] Qip rfl (PartsC.agg (q0 ?b3_2 A W 3 hf) (PartsC.nil)) (by rfl)
  apply oc0; intro A W hx hf
  exact Q1e [(0, (.tmp 2)), (1, (.tmp 4)), (2, (.const (.int .i64 6))), (3, (.const (.int .i64 1000))), (4, (.const (.int .i64 80)))] [(0, _), (1, _), (2, _), (3, _), (4, _)] Qqg rfl (PartsC.agg (q0 ?b3_1 A W 2 hf) (PartsC.agg (q1 ?b3_3 A W 4 hf) (PartsC.one (ec A (.int .i64 6)) rfl (PartsC.one (ec A (.int .i64 1000)) rfl (PartsC.one (ec A (.int .i64 80)) rfl (PartsC.nil)))))) (by rfl)
  exact onn
 case t3 => exact inferInstance
 clear hr; intro a4 w4 x hr hd hs
 revert s0; refine kp1 hs rfl ?_; intro s0
 have s5 := fa ?b3_4 a4 w4 5 (hd 4 5 rfl)
 replace e_w := e_w.trans x
 have e_w2 := x; clear hd hs x
 have z5 := PxS.lt (Q00 e_w2 s0)
 have l5 := (show (g2_0 = 0 ∨ w.heap.size < g2_0) ∧ True from ⟨by omega, trivial⟩)
 refine Q0k hr Q37 (Q00 e_w2 s0) (Is.conv s5 (show _ = TupV some11 from rfl)) (by rfl) (by exact Q8h) rfl ?_; clear hr; intro a5 w5 hc hu hr hs
 have hb : Below w.heap.size w4 w5 := hc.below e_w.size l5.1
 revert s0; refine kp1 hs rfl ?_; intro s0
 clear s5
 replace s0 := hu _ _ _ (Q00 e_w2 s0)
 try simp only [List.set_cons_zero, List.set_cons_succ] at s0
 replace e_w := e_w.below (Nat.le_refl _) hb
 clear e_w2
 clear hu hs hc hb
 refine wpList_nil ?_
 refine et ?_
 refine wp_ret ?_
 refine Q7o Try.results20 hr tu35 rfl Q37 s0 e_w ?_
 exact rfl

def Q81 : List Tmp := [4, 5, 25, 26, 27, 28, 29, 30, 31, 32, 33, 34, 35]
set_option maxHeartbeats 1000000 in
theorem Qdx {w : World}    :
    Calls Try.prog 9 #[] w (Ret (Is (.bool true)) w) := by
 have hml := Qlw
 refine enter Try.func9 rfl Try.ntmps9 (k := 0) rfl (by decide) (fun a0 hr hargs => ?_)
 clear hargs
 refine sq ?_
 refine Q04 70 [[]] [?b1_0] Q08 hr ?t1 ?o1 ?_
 case o1 =>
  apply oc0; intro A W hx hf
  exact Q05
  exact onn
 case t1 => exact inferInstance
 clear hr; intro a2 w2 x hr hd hs
 have e_w := x; clear hd hs x
 refine es ?_
 refine Q06 (l := [_, _]) (rest := [_]) 70 [[], []] [?b3_0, ?b3_1] hr ?t3 ?o3 ?_
 case o3 =>
  apply oc0; intro A W hx hf
  exact Qbr Qpj (Qlv )
  apply oc0; intro A W hx hf
  exact Q0y (tupS tup0) [1, 16, 1, 16, 1, 1, 1] Q9r (by rfl) (by rfl) hx.size
  exact onn
 case t3 => exact inferInstance
 clear hr; intro a4 w4 x hr hd hs
 have z_w_w2 := e_w.size
 have s10 := fa ?b3_0 a4 w4 10 (hd 0 10 rfl)
 have s1 := fa ?b3_1 a4 w4 1 (hd 1 1 rfl)
 obtain ⟨g4_1, q4_1⟩ := PxN.at s1; clear s1; have n4_1 := PxS.lt q4_1
 replace q4_1 := PxS.mono q4_1 e_w.size
 have s1 := q4_1; clear q4_1
 replace e_w := e_w.trans x; clear hd hs x
 have z5 := PxS.lt s1
 have l5 := (show (g4_1 = 0 ∨ w.heap.size < g4_1) ∧ True from ⟨by omega, trivial⟩)
 refine Q19 (tupS some11) hr Q37 s1 (Is.conv s10 (show _ = Value.agg (tupS some11).flatten.toArray from rfl)) (by exact Q39 Qaf) (by exact Q8h) rfl ?_; clear hr; intro a5 w5 hc hu hr hs
 have hb : Below w.heap.size w4 w5 := hc.below e_w.size l5.1
 revert s1; refine kp1 hs rfl ?_; intro s1
 clear s10
 replace s1 := hu _ _ _ s1
 try simp only [List.set_cons_zero, List.set_cons_succ, tupS] at s1
 replace e_w := e_w.below (Nat.le_refl _) hb
 clear hu hs hc hb
 refine wpList_nil ?_
 refine es ?_
 refine Q06 (l := [_, _, _]) (rest := [_, _, _]) 70 [[], [(1, none)], []] [?b6_0, ?b6_1, ?b6_2] hr ?t6 ?o6 ?_
 case o6 =>
  apply oc0; intro A W hx hf
  exact Q13 Q9o
  apply oc0; intro A W hx hf
  exact Q0b 7 tu35 rfl Q37 (o1 s1 hx (r0 hf)) rfl
  apply oc0; intro A W hx hf
  exact Q3c [(.const (.int .u8 104)), (.const (.int .u8 105))] [_, _] tu22 Q0s Q45 rfl rfl (by decide) hx.size (PartsOk.cons (show ByteIs 104 _ _ from rfl) (PartsOk.cons (show ByteIs 105 _ _ from rfl) (PartsOk.nil)))
  exact onn
 case t6 => exact inferInstance
 clear hr; intro a7 w7 x hr hd hs
 have z_w_w5 := e_w.size
 have l7_1 := PxS.lt s1
 revert s1; refine kp1 hs rfl ?_; intro s1
 have s11 := fa ?b6_0 a7 w7 11 (hd 0 11 rfl)
 have s12 := fa ?b6_1 a7 w7 12 (hd 1 12 rfl)
 have s13 := fa ?b6_2 a7 w7 13 (hd 2 13 rfl)
 obtain ⟨g7_13, q7_13⟩ := OwnB.at s13; clear s13; have n7_13 := OwnBA.lt q7_13
 replace q7_13 := OwnBA.mono q7_13 e_w.size
 have s13 := q7_13; clear q7_13
 replace e_w := e_w.trans x
 have e_w5 := x; clear hd hs x
 have l8 := OwnBA.lt s13
 have l8_1 := PxS.lt (Q00 e_w5 s1)
 refine Qft hr (by decide) tu22 tu5 s13 rfl ?_; clear hr; intro g8 a8 w8 hg8 hc hr hd hs
 have hb := hc.below e_w.size l8.1
 revert s12; revert s11; revert s1; refine kp3 hs rfl ?_; intro s1 s11 s12
 clear s13
 replace s1 := PxS.other (Q00 e_w5 s1) hc (by omega)
 have s14 := hd
 replace e_w := e_w.below (Nat.le_refl _) hb
 clear e_w5
 replace s11 := anyw (w2 := w8) s11
 replace s12 := anyw (w2 := w8) s12
 clear hd hs hb hc
 have l9_1 := PxS.lt s1
 refine Q11 hr (Q3p Qdb (Q6l (LinkV.of (show Is (LnkA Q4q (.slice none 0 0)) _ _ from Is.conv s11 rfl) Qmi) (Is.conv s12 (show _ = TupV some11 from rfl)) (show Is (.int .i64 2) (a8.eval (.const (.int .i64 2))) _ from rfl) s14 (by exact ⟨rfl, rfl⟩) (by exact Qaf) (by exact aw_r) (by exact aw_m) (by exact aw_n) (Nat.le_refl _))) inferInstance ?_; clear hr; intro a9 w9 x hr hd hs
 revert s1; refine kp1 hs rfl ?_; intro s1
 clear s14 s11 s12
 have s15 := hd 15 rfl (by decide)
 obtain ⟨g9_15, q9_15⟩ := OwnB.at s15; clear s15; have n9_15 := OwnBA.lt q9_15
 replace q9_15 := OwnBA.mono q9_15 e_w.size
 have s15 := q9_15; clear q9_15
 replace e_w := e_w.trans x
 have e_w8 := x; clear hd hs x
 refine Q11 hr (Q03 s15) inferInstance ?_; clear hr; intro a10 w10 x hr hd hs
 revert s1; refine kp1 hs rfl ?_; intro s1
 clear s15
 have s2 := hd 2 rfl (by decide)
 replace e_w := e_w.trans x
 replace e_w8 := e_w8.trans x; clear hd hs x
 refine wpList_nil ?_
 replace s2 := OwnBA.cast s2 (show _ = mk11 from rfl)
 refine es ?_
 refine Q06 (l := [_, _, _]) (rest := [_]) 70 [[], [(16, some 0)], [(1, none)]] [?b11_0, ?b11_1, ?b11_2] hr ?t11 ?o11 ?_
 case o11 =>
  apply oc0; intro A W hx hf
  exact Q71 [10, 0, 0, 9, 0, 0, 0, 0, 0, 0, 0, 0, 0, 0, 0, 0] [(0, (.int .u8 10)), (1, (.int .u8 0)), (2, (.int .u8 0)), (3, (.int .u8 9))] rfl (by kernel_rfl)
  apply oc0; intro A W hx hf
  exact Q1e [(1, (.tmp 16))] [(1, _)] Qip rfl (PartsC.agg (q0 ?b11_0 A W 16 hf) (PartsC.nil)) (by rfl)
  apply oc0; intro A W hx hf
  exact Q02 2 tu35 (k := 1) rfl Q0z rfl (o2 s1 e_w8 hx (r0 hf)) rfl
  exact onn
 case t11 => exact inferInstance
 clear hr; intro a12 w12 x hr hd hs
 revert s2; revert s1; refine kp2 hs rfl ?_; intro s1 s2
 have s17 := fa ?b11_1 a12 w12 17 (hd 1 17 rfl)
 have s18 := fa ?b11_2 a12 w12 18 (hd 2 18 rfl)
 replace e_w := e_w.trans x
 replace e_w8 := e_w8.trans x
 have e_w10 := x; clear hd hs x
 have z13 := PxS.lt s18
 have l13 := (show (g4_1 = 0 ∨ w.heap.size < g4_1) ∧ True from ⟨by omega, trivial⟩)
 have l13_2 := OwnBA.lt (Q00 e_w10 s2)
 refine Q9m (tupS { some11 with dst := adrN }) [[.bool adrN.six], adrN.b.map Q0t] hr Q0z s18 (Is.conv s17 (show _ = Value.agg ([[Value.bool adrN.six], adrN.b.map Q0t] : List (List Value)).flatten.toArray from rfl)) (by rfl) (by exact Nat.le_of_ble_eq_true rfl) (by rfl) (by rfl) (by exact Qce) ?_; clear hr; intro a13 w13 hc hu hr hs
 have hb : Below w.heap.size w12 w13 := hc.below e_w.size l13.1
 revert s2; revert s1; refine kp2 hs rfl ?_; intro s1 s2
 clear s17 s18
 replace s1 := hu _ _ _ (Q00 e_w8 s1)
 try simp only [List.set_cons_zero, List.set_cons_succ, tupS] at s1
 replace s2 := OwnBA.other (Q00 e_w10 s2) hc (by omega)
 replace e_w := e_w.below (Nat.le_refl _) hb
 clear e_w8
 clear e_w10
 clear hu hs hc hb
 refine wpList_nil ?_
 refine es ?_
 refine Q06 (l := [_]) (rest := [_]) 70 [[(1, none)]] [?b14_0] hr ?t14 ?o14 ?_
 case o14 =>
  apply oc0; intro A W hx hf
  exact Q02 6 tu35 (k := 4) rfl Q0m rfl (o1 s1 hx (r0 hf)) rfl
  exact onn
 case t14 => exact inferInstance
 clear hr; intro a15 w15 x hr hd hs
 revert s2; revert s1; refine kp2 hs rfl ?_; intro s1 s2
 have s19 := fa ?b14_0 a15 w15 19 (hd 0 19 rfl)
 replace e_w := e_w.trans x
 have e_w13 := x; clear hd hs x
 have z16 := PxS.lt s19
 have l16 := (show (g4_1 = 0 ∨ w.heap.size < g4_1) ∧ True from ⟨by omega, trivial⟩)
 have l16_2 := OwnBA.lt (Q00 e_w13 s2)
 refine Q1z hr Q0m s19 (ec a15 (.int .i64 8080)) (by rfl) rfl ?_; clear hr; intro a16 w16 hc hu hr hs
 have hb : Below w.heap.size w15 w16 := hc.below e_w.size l16.1
 revert s2; revert s1; refine kp2 hs rfl ?_; intro s1 s2
 clear s19
 replace s1 := hu _ _ _ (Q00 e_w13 s1)
 try simp only [List.set_cons_zero, List.set_cons_succ, tupS] at s1
 replace s2 := OwnBA.other (Q00 e_w13 s2) hc (by omega)
 replace e_w := e_w.below (Nat.le_refl _) hb
 clear e_w13
 clear hu hs hc hb
 refine wpList_nil ?_
 replace s1 := PxS.cast s1 (show _ = tupS someN from rfl)
 refine es ?_
 refine Q06 (l := [_, _, _]) (rest := [_, _, _]) 70 [[], [(1, none)], []] [?b17_0, ?b17_1, ?b17_2] hr ?t17 ?o17 ?_
 case o17 =>
  apply oc0; intro A W hx hf
  exact Q13 Q9o
  apply oc0; intro A W hx hf
  exact Q0b 7 tu35 rfl Q37 (o1 s1 hx (r0 hf)) rfl
  apply oc0; intro A W hx hf
  exact Q3c [(.const (.int .u8 104)), (.const (.int .u8 105))] [_, _] tu22 Q0s Q45 rfl rfl (by decide) hx.size (PartsOk.cons (show ByteIs 104 _ _ from rfl) (PartsOk.cons (show ByteIs 105 _ _ from rfl) (PartsOk.nil)))
  exact onn
 case t17 => exact inferInstance
 clear hr; intro a18 w18 x hr hd hs
 have z_w_w16 := e_w.size
 have l18_2 := OwnBA.lt s2
 have l18_1 := PxS.lt s1
 revert s1; revert s2; refine kp2 hs rfl ?_; intro s2 s1
 have s20 := fa ?b17_0 a18 w18 20 (hd 0 20 rfl)
 have s21 := fa ?b17_1 a18 w18 21 (hd 1 21 rfl)
 have s22 := fa ?b17_2 a18 w18 22 (hd 2 22 rfl)
 obtain ⟨g18_22, q18_22⟩ := OwnB.at s22; clear s22; have n18_22 := OwnBA.lt q18_22
 replace q18_22 := OwnBA.mono q18_22 e_w.size
 have s22 := q18_22; clear q18_22
 replace e_w := e_w.trans x
 have e_w16 := x; clear hd hs x
 have l19 := OwnBA.lt s22
 have l19_2 := OwnBA.lt (Q00 e_w16 s2)
 have l19_1 := PxS.lt (Q00 e_w16 s1)
 refine Qft hr (by decide) tu22 tu5 s22 rfl ?_; clear hr; intro g19 a19 w19 hg19 hc hr hd hs
 have hb := hc.below e_w.size l19.1
 revert s21; revert s20; revert s1; revert s2; refine kp4 hs rfl ?_; intro s2 s1 s20 s21
 clear s22
 replace s2 := OwnBA.other (Q00 e_w16 s2) hc (by omega)
 replace s1 := PxS.other (Q00 e_w16 s1) hc (by omega)
 have s23 := hd
 replace e_w := e_w.below (Nat.le_refl _) hb
 clear e_w16
 replace s20 := anyw (w2 := w19) s20
 replace s21 := anyw (w2 := w19) s21
 clear hd hs hb hc
 have l20_2 := OwnBA.lt s2
 have l20_1 := PxS.lt s1
 refine Q11 hr (Q3p Qdb (Q6l (LinkV.of (show Is (LnkA Q4q (.slice none 0 0)) _ _ from Is.conv s20 rfl) Qmi) (Is.conv s21 (show _ = TupV someN from rfl)) (show Is (.int .i64 2) (a19.eval (.const (.int .i64 2))) _ from rfl) s23 (by exact ⟨rfl, rfl⟩) (by exact Qlx) (by exact Qs1) (by exact Qs2) (by exact Qs3) (Nat.le_refl _))) inferInstance ?_; clear hr; intro a20 w20 x hr hd hs
 revert s1; revert s2; refine kp2 hs rfl ?_; intro s2 s1
 clear s23 s20 s21
 have s24 := hd 24 rfl (by decide)
 obtain ⟨g20_24, q20_24⟩ := OwnB.at s24; clear s24; have n20_24 := OwnBA.lt q20_24
 replace q20_24 := OwnBA.mono q20_24 e_w.size
 have s24 := q20_24; clear q20_24
 replace e_w := e_w.trans x
 have e_w19 := x; clear hd hs x
 refine Q11 hr (Q03 s24) inferInstance ?_; clear hr; intro a21 w21 x hr hd hs
 revert s1; revert s2; refine kp2 hs rfl ?_; intro s2 s1
 clear s24
 have s3 := hd 3 rfl (by decide)
 replace e_w := e_w.trans x
 replace e_w19 := e_w19.trans x; clear hd hs x
 refine wpList_nil ?_
 replace s3 := OwnBA.cast s3 (show _ = mkN from rfl)
 refine es ?_
 refine Q33 (fun A W => Fr 70 A ∧ Same Q81 a21 A ∧ Ext w W ∧ (PxS g4_1 w.heap.size [1, 16, 1, 16, 1, 1, 1] (tupS someN) 0) (A.eval (.tmp 1)) W ∧ (OwnBA g9_15 w.heap.size 5 mk11) (A.eval (.tmp 2)) W ∧ (OwnBA g20_24 w.heap.size 5 mkN) (A.eval (.tmp 3)) W ∧ (Bs mkN) (A.eval (.tmp 4)) W ∧ (Is (.int .i64 0)) (A.eval (.tmp 5)) W) ?cut22 ?_
 case cut22 =>
  have m22 : Same Q81 a21 a21 := Same.rfl
  refine Q4a (fun W => Below w.heap.size w W ∧ BlkS g4_1 [1, 16, 1, 16, 1, 1, 1] _ W) Q08 (fun w' x => ⟨(e_w.trans x), PxS.blkS (Q00 (e_w19.trans x) s1)⟩) (fun w23 x _ => ?_)
  show wpAnyH _ _ _ _ _ 13 _ _ _
  replace e_w := e_w.trans x
  replace e_w19 := e_w19.trans x
  have e_w21 := x
  clear x
  refine Q0n (i := 1) hr rfl (by decide) (by kernel_rfl) (fun _ _ _ _ h => h) (yh (Q1p (Q0h (Q00 e_w19 s2)) (Q3s))) ⟨e_w, PxS.blkS (Q00 e_w19 s1)⟩ ?_; clear hr; intro a24 hr hd hs
  revert s3; revert s1; revert s2; refine kp3 hs rfl ?_; intro s2 s1 s3
  have s27 := hd
  replace m22 := m22.tr hs rfl
  clear hd hs
  refine Q0n (i := 5) hr rfl (by decide) (by kernel_rfl) (fun _ _ _ _ h => h) (yh (Q1p (Q02 2 tu35 (k := 1) rfl Q0z rfl (Q00 e_w19 s1) rfl) (Q42 tu35 (k := 1) rfl Q0z rfl (PxS.cells (Q00 e_w19 s1))))) ⟨e_w, PxS.blkS (Q00 e_w19 s1)⟩ ?_; clear hr; intro a25 hr hd hs
  revert s27; revert s3; revert s1; revert s2; refine kp4 hs rfl ?_; intro s2 s1 s3 s27
  have s31 := hd
  replace m22 := m22.tr hs rfl
  clear hd hs
  refine Q0n (i := 6) hr rfl (by decide) (by kernel_rfl) (fun _ _ _ _ h => h) (Qh2 4 tu25 rfl Q0z s31 (fun W hW => hW.2) rfl) ⟨e_w, PxS.blkS (Q00 e_w19 s1)⟩ ?_; clear hr; intro a26 hr hd hs
  revert s27; revert s3; revert s1; revert s2; refine kp4 hs rfl ?_; intro s2 s1 s3 s27
  clear s31
  have s32 := hd
  replace m22 := m22.tr hs rfl
  clear hd hs
  refine Q99 (i := 0) (j := 3) (by kernel_rfl) rfl rfl ?_ ?_
  ·
   have l27_2 := OwnBA.lt (Q00 e_w19 s2)
   have l27_1 := PxS.lt (Q00 e_w19 s1)
   have l27_3 := OwnBA.lt (Q00 e_w21 s3)
   have l27_27 := OwnBA.lt s27
   refine Q11 hr (Q3c [] [] tu22 Q0s Q45 rfl rfl (by decide) (Nat.le_refl _) (PartsOk.nil)) inferInstance ?_; clear hr; intro a27 w27 x hr hd hs
   revert s32; revert s27; revert s3; revert s1; revert s2; refine kp5 hs rfl ?_; intro s2 s1 s3 s27 s32
   have s26 := hd 26 rfl (by decide)
   obtain ⟨g27_26, q27_26⟩ := OwnB.at s26; clear s26; have n27_26 := OwnBA.lt q27_26
   replace q27_26 := OwnBA.mono q27_26 e_w.size
   have s26 := q27_26; clear q27_26
   replace e_w := e_w.trans x
   replace e_w19 := e_w19.trans x
   replace e_w21 := e_w21.trans x
   have e_w23 := x
   replace m22 := m22.tr hs rfl; clear hd hs x
   refine Q1x ⟨e_w, PxS.blkS (Q00 e_w19 s1)⟩ ?_
   refine Q99 (i := 2) (j := 3) (by kernel_rfl) rfl rfl ?_ ?_
   ·
    have l28 := OwnBA.lt s26
    have l28_2 := OwnBA.lt (Q00 e_w19 s2)
    have l28_1 := PxS.lt (Q00 e_w19 s1)
    have l28_3 := OwnBA.lt (Q00 e_w21 s3)
    refine Q0u hr (by decide) tu22 Q3u rfl s26 (OwnBA.bs (Q00 e_w23 s27)) e_w.size (by first | (simp [hml]; done) | (simp [hml]; omega)) ?_; clear hr; intro g28 a28 w28 hg28 hc hr hd hs
    have hb := hc.below e_w.size l28.1
    revert s32; revert s3; revert s1; revert s2; refine kp4 hs rfl ?_; intro s2 s1 s3 s32
    clear s27 s26
    replace s2 := OwnBA.other (Q00 e_w19 s2) hc (by omega)
    replace s1 := PxS.other (Q00 e_w19 s1) hc (by omega)
    replace s3 := OwnBA.other (Q00 e_w21 s3) hc (by omega)
    have s28 := hd
    replace e_w := e_w.below (Nat.le_refl _) hb
    clear e_w19
    clear e_w21
    clear e_w23
    replace s32 := anyw (w2 := w28) s32
    replace m22 := m22.tr hs rfl
    clear hd hs hb hc
    refine Q1x ⟨e_w, PxS.blkS s1⟩ ?_
    refine Q2a (i := 3) (by kernel_rfl) rfl ?_
    ·
     have l29_2 := OwnBA.lt s2
     have l29_1 := PxS.lt s1
     have l29_3 := OwnBA.lt s3
     have l29_28 := OwnBA.lt s28
     refine Q11 hr (Q3c [(.const (.int .u8 1)), (.const (.int .u8 2))] [_, _] tu22 Q0s Q45 rfl rfl (by decide) (Nat.le_refl _) (PartsOk.cons (show ByteIs 1 _ _ from rfl) (PartsOk.cons (show ByteIs 2 _ _ from rfl) (PartsOk.nil)))) inferInstance ?_; clear hr; intro a29 w29 x hr hd hs
     revert s32; revert s28; revert s3; revert s1; revert s2; refine kp5 hs rfl ?_; intro s2 s1 s3 s28 s32
     have s29 := hd 29 rfl (by decide)
     obtain ⟨g29_29, q29_29⟩ := OwnB.at s29; clear s29; have n29_29 := OwnBA.lt q29_29
     replace q29_29 := OwnBA.mono q29_29 e_w.size
     have s29 := q29_29; clear q29_29
     replace e_w := e_w.trans x
     have e_w28 := x
     replace m22 := m22.tr hs rfl; clear hd hs x
     refine Q1x ⟨e_w, PxS.blkS (Q00 e_w28 s1)⟩ ?_
     refine Q2a (i := 4) (by kernel_rfl) rfl ?_
     ·
      have l30 := OwnBA.lt (Q00 e_w28 s28)
      have l30_2 := OwnBA.lt (Q00 e_w28 s2)
      have l30_1 := PxS.lt (Q00 e_w28 s1)
      have l30_3 := OwnBA.lt (Q00 e_w28 s3)
      refine Q0u hr (by decide) tu22 Q3u rfl (Q00 e_w28 s28) (OwnBA.bs s29) e_w.size (by first | (simp [hml]; done) | (simp [hml]; omega)) ?_; clear hr; intro g30 a30 w30 hg30 hc hr hd hs
      have hb := hc.below e_w.size l30.1
      revert s32; revert s3; revert s1; revert s2; refine kp4 hs rfl ?_; intro s2 s1 s3 s32
      clear s28 s29
      replace s2 := OwnBA.other (Q00 e_w28 s2) hc (by omega)
      replace s1 := PxS.other (Q00 e_w28 s1) hc (by omega)
      replace s3 := OwnBA.other (Q00 e_w28 s3) hc (by omega)
      have s30 := hd
      replace e_w := e_w.below (Nat.le_refl _) hb
      clear e_w28
      replace s32 := anyw (w2 := w30) s32
      replace m22 := m22.tr hs rfl
      clear hd hs hb hc
      refine Q1x ⟨e_w, PxS.blkS s1⟩ ?_
      refine Q2a (i := 7) (by kernel_rfl) rfl ?_
      ·
       refine Q11 hr (Q2y Qda (Qjz (OwnBA.bs s30) (Is.conv s32 (show _ = AdrV adrN from rfl)) (show Is (.int .i64 8080) (a30.eval (.const (.int .i64 8080))) _ from rfl) (by exact rfl) (by simp [hml]) (Nat.le_refl _))) inferInstance ?_; clear hr; intro a31 w31 x hr hd hs
       revert s3; revert s1; revert s2; refine kp3 hs rfl ?_; intro s2 s1 s3
       clear s30 s32
       have s33 := hd 33 rfl (by decide)
       replace e_w := e_w.trans x
       have e_w30 := x
       replace m22 := m22.tr hs rfl; clear hd hs x
       refine Q1x ⟨e_w, PxS.blkS (Q00 e_w30 s1)⟩ ?_
       refine Q0n (i := 8) hr rfl (by decide) (by kernel_rfl) (fun _ _ _ _ h => h) (yh (Q1p (Q0h s33) (Q3s))) ⟨e_w, PxS.blkS (Q00 e_w30 s1)⟩ ?_; clear hr; intro a32 hr hd hs
       revert s3; revert s1; revert s2; refine kp3 hs rfl ?_; intro s2 s1 s3
       clear s33
       have s25 := hd
       replace m22 := m22.tr hs rfl
       clear hd hs
       refine Q0n (i := 9) hr rfl (by decide) (by kernel_rfl) (fun _ _ _ _ h => h) (yh (Q1p (Q2t s25) (Q3r rfl s25))) ⟨e_w, PxS.blkS (Q00 e_w30 s1)⟩ ?_; clear hr; intro a33 hr hd hs
       revert s25; revert s3; revert s1; revert s2; refine kp4 hs rfl ?_; intro s2 s1 s3 s25
       have s34 := hd
       replace m22 := m22.tr hs rfl
       clear hd hs
       refine Q0n (i := 10) hr rfl (by decide) (by kernel_rfl) (fun _ _ _ _ h => h) (yh (Q1p (Q2u s25) (Q3r rfl s25))) ⟨e_w, PxS.blkS (Q00 e_w30 s1)⟩ ?_; clear hr; intro a34 hr hd hs
       revert s34; revert s3; revert s1; revert s2; refine kp4 hs rfl ?_; intro s2 s1 s3 s34
       clear s25
       have s35 := hd
       replace m22 := m22.tr hs rfl
       clear hd hs
       refine Q0n (i := 11) hr rfl (by decide) (by kernel_rfl) (fun _ _ _ _ h => h) (yh (Q1p (Q03 s34) (Q36))) ⟨e_w, PxS.blkS (Q00 e_w30 s1)⟩ ?_; clear hr; intro a35 hr hd hs
       revert s35; revert s3; revert s1; revert s2; refine kp4 hs rfl ?_; intro s2 s1 s3 s35
       clear s34
       have s4 := hd
       replace m22 := m22.tr hs rfl
       clear hd hs
       refine Q0n (i := 12) hr rfl (by decide) (by kernel_rfl) (fun _ _ _ _ h => h) (yh (Q1p (Q03 s35) (Q36))) ⟨e_w, PxS.blkS (Q00 e_w30 s1)⟩ ?_; clear hr; intro a36 hr hd hs
       revert s4; revert s3; revert s1; revert s2; refine kp4 hs rfl ?_; intro s2 s1 s3 s4
       clear s35
       have s5 := hd
       replace m22 := m22.tr hs rfl
       clear hd hs
       refine Q44 (by kernel_rfl) ?_
       refine et ?_
       refine ⟨hr, m22, e_w, ?_, ?_, ?_, ?_, ?_⟩
       · exact (Q00 e_w30 s1)
       · exact (Q00 e_w30 s2)
       · exact (Q00 e_w30 s3)
       · exact Bs.cast (OwnB.bs s4) (congrArg Prod.fst Qhh)
       · exact Is.int s5 (congrArg Prod.snd Qhh)
   ·
    have l37_2 := OwnBA.lt (Q00 e_w19 s2)
    have l37_1 := PxS.lt (Q00 e_w19 s1)
    have l37_3 := OwnBA.lt (Q00 e_w21 s3)
    have l37_27 := OwnBA.lt (Q00 e_w23 s27)
    have l37_26 := OwnBA.lt s26
    refine Q11 hr (Q3c [(.const (.int .u8 1)), (.const (.int .u8 2))] [_, _] tu22 Q0s Q45 rfl rfl (by decide) (Nat.le_refl _) (PartsOk.cons (show ByteIs 1 _ _ from rfl) (PartsOk.cons (show ByteIs 2 _ _ from rfl) (PartsOk.nil)))) inferInstance ?_; clear hr; intro a37 w37 x hr hd hs
    revert s26; revert s32; revert s27; revert s3; revert s1; revert s2; refine kp6 hs rfl ?_; intro s2 s1 s3 s27 s32 s26
    have s29 := hd 29 rfl (by decide)
    obtain ⟨g37_29, q37_29⟩ := OwnB.at s29; clear s29; have n37_29 := OwnBA.lt q37_29
    replace q37_29 := OwnBA.mono q37_29 e_w.size
    have s29 := q37_29; clear q37_29
    replace e_w := e_w.trans x
    replace e_w19 := e_w19.trans x
    replace e_w21 := e_w21.trans x
    replace e_w23 := e_w23.trans x
    have e_w27 := x
    replace m22 := m22.tr hs rfl; clear hd hs x
    refine Q1x ⟨e_w, PxS.blkS (Q00 e_w19 s1)⟩ ?_
    refine Q2a (i := 2) (by kernel_rfl) rfl ?_
    ·
     have l38 := OwnBA.lt (Q00 e_w27 s26)
     have l38_2 := OwnBA.lt (Q00 e_w19 s2)
     have l38_1 := PxS.lt (Q00 e_w19 s1)
     have l38_3 := OwnBA.lt (Q00 e_w21 s3)
     have l38_29 := OwnBA.lt s29
     refine Q0u hr (by decide) tu22 Q3u rfl (Q00 e_w27 s26) (OwnBA.bs (Q00 e_w23 s27)) e_w.size (by first | (simp [hml]; done) | (simp [hml]; omega)) ?_; clear hr; intro g38 a38 w38 hg38 hc hr hd hs
     have hb := hc.below e_w.size l38.1
     revert s29; revert s32; revert s3; revert s1; revert s2; refine kp5 hs rfl ?_; intro s2 s1 s3 s32 s29
     clear s27 s26
     replace s2 := OwnBA.other (Q00 e_w19 s2) hc (by omega)
     replace s1 := PxS.other (Q00 e_w19 s1) hc (by omega)
     replace s3 := OwnBA.other (Q00 e_w21 s3) hc (by omega)
     replace s29 := OwnBA.other s29 hc (by omega)
     have s28 := hd
     replace e_w := e_w.below (Nat.le_refl _) hb
     clear e_w19
     clear e_w21
     clear e_w23
     clear e_w27
     replace s32 := anyw (w2 := w38) s32
     replace m22 := m22.tr hs rfl
     clear hd hs hb hc
     refine Q1x ⟨e_w, PxS.blkS s1⟩ ?_
     refine Q2a (i := 4) (by kernel_rfl) rfl ?_
     ·
      have l39 := OwnBA.lt s28
      have l39_2 := OwnBA.lt s2
      have l39_1 := PxS.lt s1
      have l39_3 := OwnBA.lt s3
      refine Q0u hr (by decide) tu22 Q3u rfl s28 (OwnBA.bs s29) e_w.size (by first | (simp [hml]; done) | (simp [hml]; omega)) ?_; clear hr; intro g39 a39 w39 hg39 hc hr hd hs
      have hb := hc.below e_w.size l39.1
      revert s32; revert s3; revert s1; revert s2; refine kp4 hs rfl ?_; intro s2 s1 s3 s32
      clear s29 s28
      replace s2 := OwnBA.other s2 hc (by omega)
      replace s1 := PxS.other s1 hc (by omega)
      replace s3 := OwnBA.other s3 hc (by omega)
      have s30 := hd
      replace e_w := e_w.below (Nat.le_refl _) hb
      replace s32 := anyw (w2 := w39) s32
      replace m22 := m22.tr hs rfl
      clear hd hs hb hc
      refine Q1x ⟨e_w, PxS.blkS s1⟩ ?_
      refine Q2a (i := 7) (by kernel_rfl) rfl ?_
      ·
       refine Q11 hr (Q2y Qda (Qjz (OwnBA.bs s30) (Is.conv s32 (show _ = AdrV adrN from rfl)) (show Is (.int .i64 8080) (a39.eval (.const (.int .i64 8080))) _ from rfl) (by exact rfl) (by simp [hml]) (Nat.le_refl _))) inferInstance ?_; clear hr; intro a40 w40 x hr hd hs
       revert s3; revert s1; revert s2; refine kp3 hs rfl ?_; intro s2 s1 s3
       clear s30 s32
       have s33 := hd 33 rfl (by decide)
       replace e_w := e_w.trans x
       have e_w39 := x
       replace m22 := m22.tr hs rfl; clear hd hs x
       refine Q1x ⟨e_w, PxS.blkS (Q00 e_w39 s1)⟩ ?_
       refine Q0n (i := 8) hr rfl (by decide) (by kernel_rfl) (fun _ _ _ _ h => h) (yh (Q1p (Q0h s33) (Q3s))) ⟨e_w, PxS.blkS (Q00 e_w39 s1)⟩ ?_; clear hr; intro a41 hr hd hs
       revert s3; revert s1; revert s2; refine kp3 hs rfl ?_; intro s2 s1 s3
       clear s33
       have s25 := hd
       replace m22 := m22.tr hs rfl
       clear hd hs
       refine Q0n (i := 9) hr rfl (by decide) (by kernel_rfl) (fun _ _ _ _ h => h) (yh (Q1p (Q2t s25) (Q3r rfl s25))) ⟨e_w, PxS.blkS (Q00 e_w39 s1)⟩ ?_; clear hr; intro a42 hr hd hs
       revert s25; revert s3; revert s1; revert s2; refine kp4 hs rfl ?_; intro s2 s1 s3 s25
       have s34 := hd
       replace m22 := m22.tr hs rfl
       clear hd hs
       refine Q0n (i := 10) hr rfl (by decide) (by kernel_rfl) (fun _ _ _ _ h => h) (yh (Q1p (Q2u s25) (Q3r rfl s25))) ⟨e_w, PxS.blkS (Q00 e_w39 s1)⟩ ?_; clear hr; intro a43 hr hd hs
       revert s34; revert s3; revert s1; revert s2; refine kp4 hs rfl ?_; intro s2 s1 s3 s34
       clear s25
       have s35 := hd
       replace m22 := m22.tr hs rfl
       clear hd hs
       refine Q0n (i := 11) hr rfl (by decide) (by kernel_rfl) (fun _ _ _ _ h => h) (yh (Q1p (Q03 s34) (Q36))) ⟨e_w, PxS.blkS (Q00 e_w39 s1)⟩ ?_; clear hr; intro a44 hr hd hs
       revert s35; revert s3; revert s1; revert s2; refine kp4 hs rfl ?_; intro s2 s1 s3 s35
       clear s34
       have s4 := hd
       replace m22 := m22.tr hs rfl
       clear hd hs
       refine Q0n (i := 12) hr rfl (by decide) (by kernel_rfl) (fun _ _ _ _ h => h) (yh (Q1p (Q03 s35) (Q36))) ⟨e_w, PxS.blkS (Q00 e_w39 s1)⟩ ?_; clear hr; intro a45 hr hd hs
       revert s4; revert s3; revert s1; revert s2; refine kp4 hs rfl ?_; intro s2 s1 s3 s4
       clear s35
       have s5 := hd
       replace m22 := m22.tr hs rfl
       clear hd hs
       refine Q44 (by kernel_rfl) ?_
       refine et ?_
       refine ⟨hr, m22, e_w, ?_, ?_, ?_, ?_, ?_⟩
       · exact (Q00 e_w39 s1)
       · exact (Q00 e_w39 s2)
       · exact (Q00 e_w39 s3)
       · exact Bs.cast (OwnB.bs s4) (congrArg Prod.fst Qhh)
       · exact Is.int s5 (congrArg Prod.snd Qhh)
  ·
   have l46_2 := OwnBA.lt (Q00 e_w19 s2)
   have l46_1 := PxS.lt (Q00 e_w19 s1)
   have l46_3 := OwnBA.lt (Q00 e_w21 s3)
   have l46_27 := OwnBA.lt s27
   refine Q11 hr (Q3c [(.const (.int .u8 1)), (.const (.int .u8 2))] [_, _] tu22 Q0s Q45 rfl rfl (by decide) (Nat.le_refl _) (PartsOk.cons (show ByteIs 1 _ _ from rfl) (PartsOk.cons (show ByteIs 2 _ _ from rfl) (PartsOk.nil)))) inferInstance ?_; clear hr; intro a46 w46 x hr hd hs
   revert s32; revert s27; revert s3; revert s1; revert s2; refine kp5 hs rfl ?_; intro s2 s1 s3 s27 s32
   have s29 := hd 29 rfl (by decide)
   obtain ⟨g46_29, q46_29⟩ := OwnB.at s29; clear s29; have n46_29 := OwnBA.lt q46_29
   replace q46_29 := OwnBA.mono q46_29 e_w.size
   have s29 := q46_29; clear q46_29
   replace e_w := e_w.trans x
   replace e_w19 := e_w19.trans x
   replace e_w21 := e_w21.trans x
   have e_w23 := x
   replace m22 := m22.tr hs rfl; clear hd hs x
   refine Q1x ⟨e_w, PxS.blkS (Q00 e_w19 s1)⟩ ?_
   refine Q2a (i := 0) (by kernel_rfl) rfl ?_
   ·
    have l47_2 := OwnBA.lt (Q00 e_w19 s2)
    have l47_1 := PxS.lt (Q00 e_w19 s1)
    have l47_3 := OwnBA.lt (Q00 e_w21 s3)
    have l47_27 := OwnBA.lt (Q00 e_w23 s27)
    have l47_29 := OwnBA.lt s29
    refine Q11 hr (Q3c [] [] tu22 Q0s Q45 rfl rfl (by decide) (Nat.le_refl _) (PartsOk.nil)) inferInstance ?_; clear hr; intro a47 w47 x hr hd hs
    revert s29; revert s32; revert s27; revert s3; revert s1; revert s2; refine kp6 hs rfl ?_; intro s2 s1 s3 s27 s32 s29
    have s26 := hd 26 rfl (by decide)
    obtain ⟨g47_26, q47_26⟩ := OwnB.at s26; clear s26; have n47_26 := OwnBA.lt q47_26
    replace q47_26 := OwnBA.mono q47_26 e_w.size
    have s26 := q47_26; clear q47_26
    replace e_w := e_w.trans x
    replace e_w19 := e_w19.trans x
    replace e_w21 := e_w21.trans x
    replace e_w23 := e_w23.trans x
    have e_w46 := x
    replace m22 := m22.tr hs rfl; clear hd hs x
    refine Q1x ⟨e_w, PxS.blkS (Q00 e_w19 s1)⟩ ?_
    refine Q2a (i := 2) (by kernel_rfl) rfl ?_
    ·
     have l48 := OwnBA.lt s26
     have l48_2 := OwnBA.lt (Q00 e_w19 s2)
     have l48_1 := PxS.lt (Q00 e_w19 s1)
     have l48_3 := OwnBA.lt (Q00 e_w21 s3)
     have l48_29 := OwnBA.lt (Q00 e_w46 s29)
     refine Q0u hr (by decide) tu22 Q3u rfl s26 (OwnBA.bs (Q00 e_w23 s27)) e_w.size (by first | (simp [hml]; done) | (simp [hml]; omega)) ?_; clear hr; intro g48 a48 w48 hg48 hc hr hd hs
     have hb := hc.below e_w.size l48.1
     revert s29; revert s32; revert s3; revert s1; revert s2; refine kp5 hs rfl ?_; intro s2 s1 s3 s32 s29
     clear s27 s26
     replace s2 := OwnBA.other (Q00 e_w19 s2) hc (by omega)
     replace s1 := PxS.other (Q00 e_w19 s1) hc (by omega)
     replace s3 := OwnBA.other (Q00 e_w21 s3) hc (by omega)
     replace s29 := OwnBA.other (Q00 e_w46 s29) hc (by omega)
     have s28 := hd
     replace e_w := e_w.below (Nat.le_refl _) hb
     clear e_w19
     clear e_w21
     clear e_w23
     clear e_w46
     replace s32 := anyw (w2 := w48) s32
     replace m22 := m22.tr hs rfl
     clear hd hs hb hc
     refine Q1x ⟨e_w, PxS.blkS s1⟩ ?_
     refine Q2a (i := 4) (by kernel_rfl) rfl ?_
     ·
      have l49 := OwnBA.lt s28
      have l49_2 := OwnBA.lt s2
      have l49_1 := PxS.lt s1
      have l49_3 := OwnBA.lt s3
      refine Q0u hr (by decide) tu22 Q3u rfl s28 (OwnBA.bs s29) e_w.size (by first | (simp [hml]; done) | (simp [hml]; omega)) ?_; clear hr; intro g49 a49 w49 hg49 hc hr hd hs
      have hb := hc.below e_w.size l49.1
      revert s32; revert s3; revert s1; revert s2; refine kp4 hs rfl ?_; intro s2 s1 s3 s32
      clear s29 s28
      replace s2 := OwnBA.other s2 hc (by omega)
      replace s1 := PxS.other s1 hc (by omega)
      replace s3 := OwnBA.other s3 hc (by omega)
      have s30 := hd
      replace e_w := e_w.below (Nat.le_refl _) hb
      replace s32 := anyw (w2 := w49) s32
      replace m22 := m22.tr hs rfl
      clear hd hs hb hc
      refine Q1x ⟨e_w, PxS.blkS s1⟩ ?_
      refine Q2a (i := 7) (by kernel_rfl) rfl ?_
      ·
       refine Q11 hr (Q2y Qda (Qjz (OwnBA.bs s30) (Is.conv s32 (show _ = AdrV adrN from rfl)) (show Is (.int .i64 8080) (a49.eval (.const (.int .i64 8080))) _ from rfl) (by exact rfl) (by simp [hml]) (Nat.le_refl _))) inferInstance ?_; clear hr; intro a50 w50 x hr hd hs
       revert s3; revert s1; revert s2; refine kp3 hs rfl ?_; intro s2 s1 s3
       clear s30 s32
       have s33 := hd 33 rfl (by decide)
       replace e_w := e_w.trans x
       have e_w49 := x
       replace m22 := m22.tr hs rfl; clear hd hs x
       refine Q1x ⟨e_w, PxS.blkS (Q00 e_w49 s1)⟩ ?_
       refine Q0n (i := 8) hr rfl (by decide) (by kernel_rfl) (fun _ _ _ _ h => h) (yh (Q1p (Q0h s33) (Q3s))) ⟨e_w, PxS.blkS (Q00 e_w49 s1)⟩ ?_; clear hr; intro a51 hr hd hs
       revert s3; revert s1; revert s2; refine kp3 hs rfl ?_; intro s2 s1 s3
       clear s33
       have s25 := hd
       replace m22 := m22.tr hs rfl
       clear hd hs
       refine Q0n (i := 9) hr rfl (by decide) (by kernel_rfl) (fun _ _ _ _ h => h) (yh (Q1p (Q2t s25) (Q3r rfl s25))) ⟨e_w, PxS.blkS (Q00 e_w49 s1)⟩ ?_; clear hr; intro a52 hr hd hs
       revert s25; revert s3; revert s1; revert s2; refine kp4 hs rfl ?_; intro s2 s1 s3 s25
       have s34 := hd
       replace m22 := m22.tr hs rfl
       clear hd hs
       refine Q0n (i := 10) hr rfl (by decide) (by kernel_rfl) (fun _ _ _ _ h => h) (yh (Q1p (Q2u s25) (Q3r rfl s25))) ⟨e_w, PxS.blkS (Q00 e_w49 s1)⟩ ?_; clear hr; intro a53 hr hd hs
       revert s34; revert s3; revert s1; revert s2; refine kp4 hs rfl ?_; intro s2 s1 s3 s34
       clear s25
       have s35 := hd
       replace m22 := m22.tr hs rfl
       clear hd hs
       refine Q0n (i := 11) hr rfl (by decide) (by kernel_rfl) (fun _ _ _ _ h => h) (yh (Q1p (Q03 s34) (Q36))) ⟨e_w, PxS.blkS (Q00 e_w49 s1)⟩ ?_; clear hr; intro a54 hr hd hs
       revert s35; revert s3; revert s1; revert s2; refine kp4 hs rfl ?_; intro s2 s1 s3 s35
       clear s34
       have s4 := hd
       replace m22 := m22.tr hs rfl
       clear hd hs
       refine Q0n (i := 12) hr rfl (by decide) (by kernel_rfl) (fun _ _ _ _ h => h) (yh (Q1p (Q03 s35) (Q36))) ⟨e_w, PxS.blkS (Q00 e_w49 s1)⟩ ?_; clear hr; intro a55 hr hd hs
       revert s4; revert s3; revert s1; revert s2; refine kp4 hs rfl ?_; intro s2 s1 s3 s4
       clear s35
       have s5 := hd
       replace m22 := m22.tr hs rfl
       clear hd hs
       refine Q44 (by kernel_rfl) ?_
       refine et ?_
       refine ⟨hr, m22, e_w, ?_, ?_, ?_, ?_, ?_⟩
       · exact (Q00 e_w49 s1)
       · exact (Q00 e_w49 s2)
       · exact (Q00 e_w49 s3)
       · exact Bs.cast (OwnB.bs s4) (congrArg Prod.fst Qhh)
       · exact Is.int s5 (congrArg Prod.snd Qhh)
 intro a22 w22 hI
 clear e_w
 clear e_w19
 clear hr; obtain ⟨hr, hs, e_w, u1, u2, u3, u4, u5⟩ := hI
 clear s2 s1 s3
 have s1 := u1; clear u1
 have s2 := u2; clear u2
 have s3 := u3; clear u3
 have s4 := u4; clear u4
 have s5 := u5; clear u5
 clear hs
 refine sq ?_
 refine Q04 70 [[(2, none)], [(1, none)], [(38, some 1)], [(37, some 0), (39, some 2)], [(40, some 3)], [(36, some 4)], [(36, some 4)], [(41, some 5)], [(42, some 6)]] [?b56_0, ?b56_1, ?b56_2, ?b56_3, ?b56_3, ?b56_5, ?b56_6, ?b56_5, ?b56_6] Q08 hr ?t56 ?o56 ?_
 case o56 =>
  apply oc0; intro A W hx hf
  exact Q01 (a0 := a22) (r0 hf)
  apply oc0; intro A W hx hf
  exact Q02 0 tu35 (k := 0) rfl Q0z rfl (o1 s1 hx (r0 hf)) rfl
  apply oc0; intro A W hx hf
  exact Q0b 2 tu25 rfl Q0z (q0 ?b56_1 A W 38 hf) rfl
  apply oc0; intro A W hx hf
  exact Q2y Qmk (Qk0 (OwnBA.bs (p1 s2 hx (q0 ?b56_0 A W 37 hf))) (Is.conv (q1 ?b56_2 A W 39 hf) (show _ = AdrV adrA from rfl)) (show Is (.int .i64 1000) (A.eval (.const (.int .i64 1000))) _ from rfl) (by exact rfl) (by rw [hml]; decide) hx.size)
  apply oc0; intro A W hx hf
  exact Q0h (q0 ?b56_3 A W 40 hf)
  apply oc0; intro A W hx hf
  exact Q2t (q0 ?b56_3 A W 36 hf)
  apply oc0; intro A W hx hf
  exact Q2u (q0 ?b56_3 A W 36 hf)
  apply oc0; intro A W hx hf
  exact Q03 (q0 ?b56_5 A W 41 hf)
  apply oc0; intro A W hx hf
  exact Q03 (q0 ?b56_6 A W 42 hf)
  exact onn
 case t56 => exact inferInstance
 clear hr; intro a57 w57 x hr hd hs
 have z_w_w22 := e_w.size
 have l57_1 := PxS.lt s1
 have l57_2 := OwnBA.lt s2
 have l57_3 := OwnBA.lt s3
 revert s5; revert s4; revert s3; revert s2; revert s1; refine kp5 hs rfl ?_; intro s1 s2 s3 s4 s5
 have s6 := fa ?b56_5 a57 w57 6 (hd 7 6 rfl)
 have s7 := fa ?b56_6 a57 w57 7 (hd 8 7 rfl)
 obtain ⟨g57_6, q57_6⟩ := OwnB.at s6; clear s6; have n57_6 := OwnBA.lt q57_6
 replace q57_6 := OwnBA.mono q57_6 e_w.size
 have s6 := q57_6; clear q57_6
 replace e_w := e_w.trans x
 have e_w22 := x; clear hd hs x
 replace s6 := OwnBA.cast s6 (show _ = mk11 from congrArg Prod.fst Qk1)
 replace s7 := Is.int s7 (show _ = (0 : Int) from congrArg Prod.snd Qk1)
 refine es ?_
 refine Q04 70 [[(2, none)], [(1, none)], [(45, some 1)], [(44, some 0), (46, some 2)], [(47, some 3)], [(43, some 4)], [(43, some 4)], [(48, some 5)], [(49, some 6)]] [?b58_0, ?b58_1, ?b58_2, ?b58_3, ?b58_3, ?b58_5, ?b58_6, ?b58_5, ?b58_6] Q08 hr ?t58 ?o58 ?_
 case o58 =>
  apply oc0; intro A W hx hf
  exact Q01 (a0 := a57) (r0 hf)
  apply oc0; intro A W hx hf
  exact Q02 2 tu35 (k := 1) rfl Q0z rfl (o2 s1 e_w22 hx (r0 hf)) rfl
  apply oc0; intro A W hx hf
  exact Q0b 4 tu25 rfl Q0z (q0 ?b58_1 A W 45 hf) rfl
  apply oc0; intro A W hx hf
  exact Q2y Qda (Qjz (OwnBA.bs (p2 s2 e_w22 hx (q0 ?b58_0 A W 44 hf))) (Is.conv (q1 ?b58_2 A W 46 hf) (show _ = AdrV adrN from rfl)) (show Is (.int .i64 65536) (A.eval (.const (.int .i64 65536))) _ from rfl) (by exact rfl) (by rw [hml]; decide) hx.size)
  apply oc0; intro A W hx hf
  exact Q0h (q0 ?b58_3 A W 47 hf)
  apply oc0; intro A W hx hf
  exact Q2t (q0 ?b58_3 A W 43 hf)
  apply oc0; intro A W hx hf
  exact Q2u (q0 ?b58_3 A W 43 hf)
  apply oc0; intro A W hx hf
  exact Q03 (q0 ?b58_5 A W 48 hf)
  apply oc0; intro A W hx hf
  exact Q03 (q0 ?b58_6 A W 49 hf)
  exact onn
 case t58 => exact inferInstance
 clear hr; intro a59 w59 x hr hd hs
 have z_w_w57 := e_w.size
 have z_w22_w57 := e_w22.size
 revert s7; revert s6; revert s5; revert s4; revert s3; revert s2; refine kp6 hs rfl ?_; intro s2 s3 s4 s5 s6 s7
 clear s1
 have s9 := fa ?b58_6 a59 w59 9 (hd 8 9 rfl)
 replace e_w := e_w.trans x
 replace e_w22 := e_w22.trans x
 have e_w57 := x; clear hd hs x
 replace s9 := Is.int s9 (show _ = (1 : Int) from congrArg Prod.snd Qs4)
 refine es ?_
 refine Q04 70 [[(5, none)], [(50, some 0)], [(51, some 1)], [(3, none), (52, some 2)], [(4, none), (52, some 2)], [(53, some 3), (54, some 4), (52, some 2)], [(52, some 2), (55, some 5)], [(56, some 6)], [(7, none), (57, some 7)], [(58, some 8), (57, some 7)], [(57, some 7), (59, some 9)], [(60, some 10)], [(6, none), (61, some 11)], [(2, none), (61, some 11)], [(62, some 12), (63, some 13), (61, some 11)], [(61, some 11), (64, some 14)], [(65, some 15)], [(9, none), (66, some 16)], [(67, some 17), (66, some 16)], [(66, some 16), (68, some 18)], [(69, some 19)]] [?b60_0, ?b60_1, ?b60_1, ?b60_3, ?b60_4, ?b60_5, ?b60_6, ?b60_6, ?b60_8, ?b60_9, ?b60_10, ?b60_10, ?b60_12, ?b60_13, ?b60_14, ?b60_15, ?b60_15, ?b60_17, ?b60_18, ?b60_19, ?b60_19] Q08 hr ?t60 ?o60 ?_
 case o60 =>
  apply oc0; intro A W hx hf
  exact Q01 (a0 := a59) (r0 hf)
  apply oc0; intro A W hx hf
  exact Q1i (p2 s5 e_w22 hx (q0 ?b60_0 A W 50 hf)) (ec A (.int .i64 0))
  apply oc0; intro A W hx hf
  exact Q0h (q0 ?b60_1 A W 51 hf)
  refine ocg 52 ?_ (fun A W hx hf => ?_) ?_
  rfl
  exact gd_t (q1 ?b60_1 A W 52 hf) (fun hc => Q01 (a0 := a59) (r0 hf))
  refine ocg 52 ?_ (fun A W hx hf => ?_) ?_
  rfl
  exact gd_t (q1 ?b60_1 A W 52 hf) (fun hc => Q01 (a0 := a59) (r0 hf))
  refine ocg 52 ?_ (fun A W hx hf => ?_) ?_
  rfl
  exact gd_t (q2 ?b60_1 A W 52 hf) (fun hc => Q0p Qg0 (Qgi (OwnBA.bs (p2 s3 e_w22 hx (G.get (q0 ?b60_3 A W 53 hf) hc))) (p2 s4 e_w22 hx (G.get (q1 ?b60_4 A W 54 hf) hc))))
  apply oc0; intro A W hx hf
  exact Q2p (q0 ?b60_1 A W 52 hf) (q1 ?b60_5 A W 55 hf)
  apply oc0; intro A W hx hf
  exact Q0h (q0 ?b60_6 A W 56 hf)
  refine ocg 57 ?_ (fun A W hx hf => ?_) ?_
  rfl
  exact gd_t (q1 ?b60_6 A W 57 hf) (fun hc => Q01 (a0 := a59) (r0 hf))
  refine ocg 57 ?_ (fun A W hx hf => ?_) ?_
  rfl
  exact gd_t (q1 ?b60_6 A W 57 hf) (fun hc => Q1i (p2 s7 e_w57 hx (G.get (q0 ?b60_8 A W 58 hf) hc)) (ec A (.int .i64 0)))
  apply oc0; intro A W hx hf
  exact Q2p (q0 ?b60_6 A W 57 hf) (q1 ?b60_9 A W 59 hf)
  apply oc0; intro A W hx hf
  exact Q0h (q0 ?b60_10 A W 60 hf)
  refine ocg 61 ?_ (fun A W hx hf => ?_) ?_
  rfl
  exact gd_t (q1 ?b60_10 A W 61 hf) (fun hc => Q01 (a0 := a59) (r0 hf))
  refine ocg 61 ?_ (fun A W hx hf => ?_) ?_
  rfl
  exact gd_t (q1 ?b60_10 A W 61 hf) (fun hc => Q01 (a0 := a59) (r0 hf))
  refine ocg 61 ?_ (fun A W hx hf => ?_) ?_
  rfl
  exact gd_t (q2 ?b60_10 A W 61 hf) (fun hc => Q0p Qg0 (Qgi (OwnBA.bs (p2 s6 e_w57 hx (G.get (q0 ?b60_12 A W 62 hf) hc))) (OwnBA.bs (p2 s2 e_w22 hx (G.get (q1 ?b60_13 A W 63 hf) hc)))))
  apply oc0; intro A W hx hf
  exact Q2p (q0 ?b60_10 A W 61 hf) (q1 ?b60_14 A W 64 hf)
  apply oc0; intro A W hx hf
  exact Q0h (q0 ?b60_15 A W 65 hf)
  refine ocg 66 ?_ (fun A W hx hf => ?_) ?_
  rfl
  exact gd_t (q1 ?b60_15 A W 66 hf) (fun hc => Q01 (a0 := a59) (r0 hf))
  refine ocg 66 ?_ (fun A W hx hf => ?_) ?_
  rfl
  exact gd_t (q1 ?b60_15 A W 66 hf) (fun hc => Q1i (p1 s9 hx (G.get (q0 ?b60_17 A W 67 hf) hc)) (ec A (.int .i64 1)))
  apply oc0; intro A W hx hf
  exact Q2p (q0 ?b60_15 A W 66 hf) (q1 ?b60_18 A W 68 hf)
  apply oc0; intro A W hx hf
  exact Q03 (q0 ?b60_19 A W 69 hf)
  exact onn
 case t60 => exact inferInstance
 clear hr; intro a61 w61 x hr hd hs
 clear s2 s3 s4 s5 s6 s7 s9
 have s0 := fa ?b60_19 a61 w61 0 (hd 20 0 rfl)
 replace e_w := e_w.trans x
 clear e_w22
 clear e_w57; clear hd hs x
 refine et ?_
 refine wp_ret ?_
 refine Q0r Try.results9 hr e_w ?_
 exact Is.bool s0 (by simp)

end Go.Proofs.Ytlmdboaghojgiaa
