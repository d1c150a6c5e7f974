import Derived.Test.YtlmdboaghojgiaaC11n
import Derived.Test.YtlmdboaghojgiaaC07
import Derived.Test.YtlmdboaghojgiaaC10m
import Derived.Test.YtlmdboaghojgiaaD11
namespace Go.Proofs.Ytlmdboaghojgiaa
open Go.RowKit
set_option linter.unusedVariables false
set_option linter.unusedSimpArgs false
set_option maxRecDepth 4000
def Q92 : List Tmp := [4, 5, 26, 27, 28, 29, 30, 31, 32, 33, 34, 35]
def Q93 : List Tmp := [4, 6, 47, 48, 49, 50, 51, 52, 53, 54, 55, 56, 57, 58, 59, 60, 61, 62, 63, 64]
set_option maxHeartbeats 1000000 in
theorem Qly {x0 : Value} {w : World} {l : List UInt8} (h0 : (Bs l) x0 w)  :
    Calls Try.prog 37 #[x0] w (Ret (Is (PktV (Q16 l))) w) := by
 have hlen := Bs.len_le h0
 obtain ⟨hs16, hd16⟩ : Qg6 (pkN l).1 := Q74 _ _
 refine Qre Try.func37 rfl Try.ntmps37 (k := 1) rfl (by decide) (fun a0 hr hargs => ?_)
 have s0 := sarg h0 (hargs 0 (by decide))
 clear hargs
 refine sq ?_
 refine Q04 95 [[]] [?b1_0] Q08 hr ?t1 ?o1 ?_
 case o1 =>
  apply oc0; intro A W hx hf
  exact Q0y [(pktS (give 0)).flatten] [42] Qir (by rfl) (by rfl) hx.size
  exact onn
 case t1 => exact inferInstance
 clear hr; intro a2 w2 x hr hd hs
 revert s0; refine kp1 hs rfl ?_; intro s0
 have s2 := fa ?b1_0 a2 w2 2 (hd 0 2 rfl)
 obtain ⟨g2_2, q2_2⟩ := PxN.at s2; clear s2; have n2_2 := PxS.lt q2_2
 have s2 := q2_2; clear q2_2
 have e_w := x; clear hd hs x
 refine es ?_
 refine wp_region_lit ?_
 have hpp := Qrf s2
 refine Q11 hr (Qk7) inferInstance ?_; clear hr; intro a3 w3 x hr hd hs
 revert s2; revert s0; refine kp2 hs rfl ?_; intro s0 s2
 have s8 := hd 8 rfl (by decide)
 replace e_w := e_w.trans x
 have e_w2 := x; clear hd hs x
 refine Qm3 hr (Qrg s8 hpp) ?_; clear hr hpp; intro a4 hr hs
 revert s2; revert s0; refine kp2 hs rfl ?_; intro s0 s2
 clear s8
 clear hs
 refine wpList_nil ?_
 refine es ?_
 refine Q06 (l := [_, _, _, _, _]) (rest := [_, _, _]) 95 [[(0, none)], [(10, some 0)], [(11, some 1)], [(9, some 2)], [(9, some 2)]] [?b5_0, ?b5_1, ?b5_1, ?b5_3, ?b5_4] hr ?t5 ?o5 ?_
 case o5 =>
  apply oc0; intro A W hx hf
  exact Q01 (a0 := a4) (r0 hf)
  apply oc0; intro A W hx hf
  exact Q18 Qpz (Qon (p2 s0 e_w hx (q0 ?b5_0 A W 10 hf)) hx.size)
  apply oc0; intro A W hx hf
  exact Q0h (q0 ?b5_1 A W 11 hf)
  apply oc0; intro A W hx hf
  exact Q2t (q0 ?b5_1 A W 9 hf)
  apply oc0; intro A W hx hf
  exact Q2u (q0 ?b5_1 A W 9 hf)
  exact onn
 case t5 => exact inferInstance
 clear hr; intro a6 w6 x hr hd hs
 have l6_2 := PxS.lt (Q00 e_w2 s2)
 revert s2; revert s0; refine kp2 hs rfl ?_; intro s0 s2
 have s12 := fa ?b5_3 a6 w6 12 (hd 3 12 rfl)
 have s13 := fa ?b5_4 a6 w6 13 (hd 4 13 rfl)
 obtain ⟨sv12, s12, gL⟩ := LinkO.open s12; obtain ⟨g6_12, gL⟩ := OwnR.at gL; have n6_12 := OwnRA.lt gL
 replace gL := OwnRA.mono gL e_w.size
 replace e_w := e_w.trans x
 replace e_w2 := e_w2.trans x; clear hd hs x
 have l7_2 := PxS.lt (Q00 e_w2 s2)
 have l7_gL := OwnRA.lt gL
 refine Q11 hr (Q0y (lnkS Q4q (.slice none 0 0)) [6, 6, 1, 1, 1] Qbw (by rfl) (by rfl) (Nat.le_refl _)) inferInstance ?_; clear hr; intro a7 w7 x hr hd hs
 revert s12; revert s13; revert s2; revert s0; refine kp4 hs rfl ?_; intro s0 s2 s13 s12
 have s3 := hd 3 rfl (by decide)
 obtain ⟨g7_3, q7_3⟩ := PxN.at s3; clear s3; have n7_3 := PxS.lt q7_3
 replace q7_3 := PxS.mono q7_3 e_w.size
 have s3 := q7_3; clear q7_3
 replace e_w := e_w.trans x
 replace e_w2 := e_w2.trans x
 have e_w6 := x; clear hd hs x
 have z8 := PxS.lt s3
 have l8 := (show (g7_3 = 0 ∨ w.heap.size < g7_3) ∧ True from ⟨by omega, trivial⟩)
 have l8_2 := PxS.lt (Q00 e_w2 s2)
 have l8_gL := OwnRA.lt (Q00 e_w6 gL)
 refine Q19 (lnkS (Q0c l).1 sv12) hr Q2v s3 (Q00 e_w6 s12) (by exact Q4l (Q9x _)) (by exact Q6e (Qg8 (OwnRA.rw (Q00 e_w6 gL)))) rfl ?_; clear hr; intro a8 w8 hc hu hr hs
 have hb : Below w.heap.size w7 w8 := hc.below e_w.size l8.1
 revert s3; revert s13; revert s2; revert s0; refine kp4 hs rfl ?_; intro s0 s2 s13 s3
 clear s12
 replace s2 := PxS.other (Q00 e_w2 s2) hc (by omega)
 replace s3 := hu _ _ _ s3
 try simp only [List.set_cons_zero, List.set_cons_succ, lnkS] at s3
 replace gL := OwnRA.other (Q00 e_w6 gL) hc (by omega)
 replace e_w := e_w.below (Nat.le_refl _) hb
 clear e_w2
 clear e_w6
 replace s13 := anyw (w2 := w8) s13
 clear hu hs hc hb
 refine Q11 hr (Q03 s13) inferInstance ?_; clear hr; intro a9 w9 x hr hd hs
 revert s3; revert s2; revert s0; refine kp3 hs rfl ?_; intro s0 s2 s3
 clear s13
 have s4 := hd 4 rfl (by decide)
 replace e_w := e_w.trans x
 have e_w8 := x; clear hd hs x
 refine wpList_nil ?_
 refine es ?_
 refine Q06 (l := [_, _]) (rest := [_]) 95 [[(4, none)], [(14, some 0)]] [?b10_0, ?b10_1] hr ?t10 ?o10 ?_
 case o10 =>
  apply oc0; intro A W hx hf
  exact Q01 (a0 := a9) (r0 hf)
  apply oc0; intro A W hx hf
  exact Q1i (p1 s4 hx (q0 ?b10_0 A W 14 hf)) (ec A (.int .i64 0))
  exact onn
 case t10 => exact inferInstance
 clear hr; intro a11 w11 x hr hd hs
 revert s3; revert s2; revert s0; refine kp3 hs rfl ?_; intro s0 s2 s3
 clear s4
 have s15 := fa ?b10_1 a11 w11 15 (hd 1 15 rfl)
 replace e_w := e_w.trans x
 replace e_w8 := e_w8.trans x; clear hd hs x
 refine Q4c s15 (fun hk1 => ?_) (fun hk1 => ?_)
 ·
  refine Q11 hr (Q8n s15 hk1) inferInstance ?_; clear hr; intro a12 w12 x hr hd hs
  have he : (Q0c l).2 = 0 := by simpa using hk1
  obtain ⟨y0, y2, y3⟩ := Qqs he
  have y1 : (Q0c l).1.at' = ((pkA l : Nat) : Int) := y0
  have y4 : pkA l ≤ l.length := y3
  revert s3; revert s2; revert s0; refine kp3 hs rfl ?_; intro s0 s2 s3
  clear s15
  replace e_w := e_w.trans x
  replace e_w8 := e_w8.trans x; clear hd hs x
  refine wpList_nil ?_
  refine es ?_
  refine Q06 (l := [_, _, _, _, _, _, _, _]) (rest := [_]) 95 [[(3, none)], [(17, some 0)], [(18, some 1)], [(19, some 2)], [(3, none), (20, some 3)], [(21, some 4), (20, some 3)], [(22, some 5), (20, some 3)], [(20, some 3), (23, some 6)]] [?b13_0, ?b13_1, ?b13_2, ?b13_2, ?b13_4, ?b13_5, ?b13_6, ?b13_7] hr ?t13 ?o13 ?_
  case o13 =>
   apply oc0; intro A W hx hf
   exact Q02 3 tu46 (k := 3) rfl Q0m rfl (o2 s3 e_w8 hx (r0 hf)) rfl
   apply oc0; intro A W hx hf
   exact Q0a tu3 rfl (q0 ?b13_0 A W 17 hf) rfl
   apply oc0; intro A W hx hf
   exact Q1i (q0 ?b13_1 A W 18 hf) (ec A (.int .i64 2048))
   apply oc0; intro A W hx hf
   exact Q0h (q0 ?b13_2 A W 19 hf)
   refine ocg 20 ?_ (fun A W hx hf => ?_) ?_
   rfl
   exact gd_f (q1 ?b13_2 A W 20 hf) (fun hc => Q02 3 tu46 (k := 3) rfl Q0m rfl (o2 s3 e_w8 hx (r0 hf)) rfl)
   refine ocg 20 ?_ (fun A W hx hf => ?_) ?_
   rfl
   exact gd_f (q1 ?b13_2 A W 20 hf) (fun hc => Q0a tu3 rfl (G.get (q0 ?b13_4 A W 21 hf) hc) rfl)
   refine ocg 20 ?_ (fun A W hx hf => ?_) ?_
   rfl
   exact gd_f (q1 ?b13_2 A W 20 hf) (fun hc => Q1i (G.get (q0 ?b13_5 A W 22 hf) hc) (ec A (.int .i64 34525)))
   apply oc0; intro A W hx hf
   exact Q3o (q0 ?b13_2 A W 20 hf) (q1 ?b13_6 A W 23 hf)
   exact onn
  case t13 => exact inferInstance
  clear hr; intro a14 w14 x hr hd hs
  revert s3; revert s2; revert s0; refine kp3 hs rfl ?_; intro s0 s2 s3
  have s24 := fa ?b13_7 a14 w14 24 (hd 7 24 rfl)
  replace e_w := e_w.trans x
  replace e_w8 := e_w8.trans x; clear hd hs x
  refine Q4c s24 (fun hk2 => ?_) (fun hk2 => ?_)
  ·
   refine Q11 hr (Q8n s24 hk2) inferInstance ?_; clear hr; intro a15 w15 x hr hd hs
   have ht : (Q0c l).1.type = 2048 ∨ (Q0c l).1.type = 34525 := by simpa using hk2
   revert s3; revert s2; revert s0; refine kp3 hs rfl ?_; intro s0 s2 s3
   clear s24
   replace e_w := e_w.trans x
   replace e_w8 := e_w8.trans x; clear hd hs x
   refine wpList_nil ?_
   refine es ?_
   refine Q33 (fun A W => ∃ (δ : Nat), FrD [Qm4 (.pointer (some ⟨g2_2 - 1, 0, none⟩))] 95 A ∧ Same Q92 a15 A ∧ Ext w W ∧ (g2_2 ≠ δ) ∧ (g7_3 ≠ δ) ∧ (PxS g2_2 w.heap.size [42] [(pktS (give 0)).flatten] 0) (A.eval (.tmp 2)) W ∧ (PxS g7_3 w.heap.size [6, 6, 1, 1, 1] (lnkS (Q0c l).1 sv12) 0) (A.eval (.tmp 3)) W ∧ (Is (.int .i64 (pkN l).2)) (A.eval (.tmp 4)) W ∧ (PxS δ w.heap.size [1, 1, 1, 1, 1, 16, 1, 16] (Q66 (pkN l).1) 0) (A.eval (.tmp 5)) W) ?cut16 ?_
   case cut16 =>
    have m16 : Same Q92 a15 a15 := Same.rfl
    refine Q4a (fun W => Below w.heap.size w W ∧ BlkS g7_3 [6, 6, 1, 1, 1] _ W) Q08 (fun w' x => ⟨(e_w.trans x), PxS.blkS (Q00 (e_w8.trans x) s3)⟩) (fun w17 x _ => ?_)
    show wpAnyH _ _ _ _ _ 13 _ _ _
    replace e_w := e_w.trans x
    replace e_w8 := e_w8.trans x
    clear x
    refine Q0n (i := 0) hr rfl (by decide) (by kernel_rfl) (fun _ _ _ _ h => Q1w (by decide) h) (yh (Q1p (Q02 3 tu46 (k := 3) rfl Q0m rfl (Q00 e_w8 s3) rfl) (Q42 tu46 (k := 3) rfl Q0m rfl (PxS.cells (Q00 e_w8 s3))))) ⟨e_w, PxS.blkS (Q00 e_w8 s3)⟩ ?_; clear hr; intro a18 hr hd hs
    revert s3; revert s2; revert s0; refine kp3 hs rfl ?_; intro s0 s2 s3
    have s27 := hd
    replace m16 := m16.tr hs rfl
    clear hd hs
    refine Q0n (i := 1) hr rfl (by decide) (by kernel_rfl) (fun _ _ _ _ h => Q1w (by decide) h) (Q4e tu3 rfl s27 (fun W hW => hW.2) rfl) ⟨e_w, PxS.blkS (Q00 e_w8 s3)⟩ ?_; clear hr; intro a19 hr hd hs
    revert s3; revert s2; revert s0; refine kp3 hs rfl ?_; intro s0 s2 s3
    clear s27
    have s28 := hd
    replace m16 := m16.tr hs rfl
    clear hd hs
    refine Q0n (i := 2) hr rfl (by decide) (by kernel_rfl) (fun _ _ _ _ h => Q1w (by decide) h) (yh (Q1p (Q0h (show AtW w _ _ _ from s0)) (Q3s))) ⟨e_w, PxS.blkS (Q00 e_w8 s3)⟩ ?_; clear hr; intro a20 hr hd hs
    revert s28; revert s3; revert s2; revert s0; refine kp4 hs rfl ?_; intro s0 s2 s3 s28
    have s29 := AtW.base hd
    replace m16 := m16.tr hs rfl
    clear hd hs
    refine Q0n (i := 3) hr rfl (by decide) (by kernel_rfl) (fun _ _ _ _ h => Q1w (by decide) h) (yh (Q1p (Q02 4 tu46 (k := 4) rfl Q0m rfl (Q00 e_w8 s3) rfl) (Q42 tu46 (k := 4) rfl Q0m rfl (PxS.cells (Q00 e_w8 s3))))) ⟨e_w, PxS.blkS (Q00 e_w8 s3)⟩ ?_; clear hr; intro a21 hr hd hs
    revert s29; revert s28; revert s3; revert s2; revert s0; refine kp5 hs rfl ?_; intro s0 s2 s3 s28 s29
    have s30 := hd
    replace m16 := m16.tr hs rfl
    clear hd hs
    refine Q0n (i := 4) hr rfl (by decide) (by kernel_rfl) (fun _ _ _ _ h => Q1w (by decide) h) (Q4e tu3 rfl s30 (fun W hW => hW.2) rfl) ⟨e_w, PxS.blkS (Q00 e_w8 s3)⟩ ?_; clear hr; intro a22 hr hd hs
    revert s29; revert s28; revert s3; revert s2; revert s0; refine kp5 hs rfl ?_; intro s0 s2 s3 s28 s29
    clear s30
    have s31 := hd
    replace m16 := m16.tr hs rfl
    clear hd hs
    refine Q0n (i := 5) hr rfl (by decide) (by kernel_rfl) (fun _ _ _ _ h => Q1w (by decide) h) (yh (Q1p (Qeb (pkA l) tu22 Q0s (Q00 e_w s29) (Is.int s31 (by exact y1)) (by omega)) (Qef (pkA l) tu22 Q0s (Q00 e_w s29) (Is.int s31 (by exact y1)) (by omega)))) ⟨e_w, PxS.blkS (Q00 e_w8 s3)⟩ ?_; clear hr; intro a23 hr hd hs
    revert s28; revert s3; revert s2; revert s0; refine kp4 hs rfl ?_; intro s0 s2 s3 s28
    clear s29 s31
    have s32 := hd
    replace m16 := m16.tr hs rfl
    clear hd hs
    refine Q99 (i := 6) (j := 10) (by kernel_rfl) rfl rfl ?_ ?_
    ·
     refine Q11 hr (Q0p Qms (Qk8 s28 s32)) inferInstance ?_; clear hr; intro a24 w24 x hr hd hs
     revert s3; revert s2; revert s0; refine kp3 hs rfl ?_; intro s0 s2 s3
     clear s28 s32
     have s33 := hd 33 rfl (by decide)
     replace e_w := e_w.trans x
     replace e_w8 := e_w8.trans x
     replace m16 := m16.tr hs rfl; clear hd hs x
     refine Q1x ⟨e_w, PxS.blkS (Q00 e_w8 s3)⟩ ?_
     refine Q0n (i := 7) hr rfl (by decide) (by kernel_rfl) (fun _ _ _ _ h => Q1w (by decide) h) (yh (Q1p (Q0h s33) (Q3s))) ⟨e_w, PxS.blkS (Q00 e_w8 s3)⟩ ?_; clear hr; intro a25 hr hd hs
     revert s3; revert s2; revert s0; refine kp3 hs rfl ?_; intro s0 s2 s3
     clear s33
     have s26 := hd
     replace m16 := m16.tr hs rfl
     clear hd hs
     refine Q0n (i := 8) hr rfl (by decide) (by kernel_rfl) (fun _ _ _ _ h => Q1w (by decide) h) (yh (Q1p (Q2t s26) (Q3r rfl s26))) ⟨e_w, PxS.blkS (Q00 e_w8 s3)⟩ ?_; clear hr; intro a26 hr hd hs
     revert s26; revert s3; revert s2; revert s0; refine kp4 hs rfl ?_; intro s0 s2 s3 s26
     have s34 := hd
     replace m16 := m16.tr hs rfl
     clear hd hs
     refine Q0n (i := 9) hr rfl (by decide) (by kernel_rfl) (fun _ _ _ _ h => Q1w (by decide) h) (yh (Q1p (Q2u s26) (Q3r rfl s26))) ⟨e_w, PxS.blkS (Q00 e_w8 s3)⟩ ?_; clear hr; intro a27 hr hd hs
     revert s34; revert s3; revert s2; revert s0; refine kp4 hs rfl ?_; intro s0 s2 s3 s34
     clear s26
     have s35 := hd
     replace m16 := m16.tr hs rfl
     clear hd hs
     refine Q2a (i := 10) (by kernel_rfl) rfl ?_
     ·
      have l28_2 := PxS.lt (Q00 e_w8 s2)
      have l28_3 := PxS.lt (Q00 e_w8 s3)
      have l28_gL := OwnRA.lt (Q00 e_w8 gL)
      refine Q11 hr (Q0y (Q66 Qnx) [1, 1, 1, 1, 1, 16, 1, 16] Qbv (by rfl) (by rfl) (Nat.le_refl _)) inferInstance ?_; clear hr; intro a28 w28 x hr hd hs
      revert s35; revert s34; revert s3; revert s2; revert s0; refine kp5 hs rfl ?_; intro s0 s2 s3 s34 s35
      have s5 := hd 5 rfl (by decide)
      obtain ⟨g28_5, q28_5⟩ := PxN.at s5; clear s5; have n28_5 := PxS.lt q28_5
      replace q28_5 := PxS.mono q28_5 e_w.size
      have s5 := q28_5; clear q28_5
      replace e_w := e_w.trans x
      replace e_w8 := e_w8.trans x
      have e_w24 := x
      replace m16 := m16.tr hs rfl; clear hd hs x
      refine Q1x ⟨e_w, PxS.blkS (Q00 e_w8 s3)⟩ ?_
      refine Q2a (i := 11) (by kernel_rfl) rfl ?_
      ·
       have z29 := PxS.lt s5
       have l29 := (show (g28_5 = 0 ∨ w.heap.size < g28_5) ∧ True from ⟨by omega, trivial⟩)
       have l29_2 := PxS.lt (Q00 e_w8 s2)
       have l29_3 := PxS.lt (Q00 e_w8 s3)
       have l29_gL := OwnRA.lt (Q00 e_w8 gL)
       refine Q19 (Q66 (pkN l).1) hr Q8g s5 (Is.conv (Q00 e_w24 s34) (show _ = Qeo (pkN l).1 from rfl)) (by exact Qbb (Q74 _ _)) (by exact Q9b) rfl ?_; clear hr; intro a29 w29 hc hu hr hs
       have hb : Below w.heap.size w28 w29 := hc.below e_w.size l29.1
       revert s5; revert s35; revert s3; revert s2; revert s0; refine kp5 hs rfl ?_; intro s0 s2 s3 s35 s5
       clear s34
       replace s2 := PxS.other (Q00 e_w8 s2) hc (by omega)
       replace s3 := PxS.other (Q00 e_w8 s3) hc (by omega)
       replace s5 := hu _ _ _ s5
       try simp only [List.set_cons_zero, List.set_cons_succ, lnkS] at s5
       replace gL := OwnRA.other (Q00 e_w8 gL) hc (by omega)
       replace e_w := e_w.below (Nat.le_refl _) hb
       clear e_w8
       clear e_w24
       replace s35 := anyw (w2 := w29) s35
       replace m16 := m16.tr hs rfl
       clear hu hs hc hb
       refine Q1x ⟨e_w, PxS.blkS s3⟩ ?_
       refine Q0n (i := 12) hr rfl (by decide) (by kernel_rfl) (fun _ _ _ _ h => Q1w (by decide) h) (yh (Q1p (Q03 s35) (Q36))) ⟨e_w, PxS.blkS s3⟩ ?_; clear hr; intro a30 hr hd hs
       revert s5; revert s3; revert s2; revert s0; refine kp4 hs rfl ?_; intro s0 s2 s3 s5
       clear s35
       have s4 := hd
       replace m16 := m16.tr hs rfl
       clear hd hs
       refine Q44 (by kernel_rfl) ?_
       refine et ?_
       refine ⟨g28_5, hr, m16, e_w, (by first | assumption | omega), (by first | assumption | omega), ?_, ?_, ?_, ?_⟩
       · exact s2
       · exact s3
       · exact s4
       · exact s5
    ·
     have l31_2 := PxS.lt (Q00 e_w8 s2)
     have l31_3 := PxS.lt (Q00 e_w8 s3)
     have l31_gL := OwnRA.lt (Q00 e_w8 gL)
     refine Q11 hr (Q0y (Q66 Qnx) [1, 1, 1, 1, 1, 16, 1, 16] Qbv (by rfl) (by rfl) (Nat.le_refl _)) inferInstance ?_; clear hr; intro a31 w31 x hr hd hs
     revert s32; revert s28; revert s3; revert s2; revert s0; refine kp5 hs rfl ?_; intro s0 s2 s3 s28 s32
     have s5 := hd 5 rfl (by decide)
     obtain ⟨g31_5, q31_5⟩ := PxN.at s5; clear s5; have n31_5 := PxS.lt q31_5
     replace q31_5 := PxS.mono q31_5 e_w.size
     have s5 := q31_5; clear q31_5
     replace e_w := e_w.trans x
     replace e_w8 := e_w8.trans x
     have e_w17 := x
     replace m16 := m16.tr hs rfl; clear hd hs x
     refine Q1x ⟨e_w, PxS.blkS (Q00 e_w8 s3)⟩ ?_
     refine Q2a (i := 6) (by kernel_rfl) rfl ?_
     ·
      refine Q11 hr (Q0p Qms (Qk8 (Q00 e_w17 s28) (Q00 e_w17 s32))) inferInstance ?_; clear hr; intro a32 w32 x hr hd hs
      revert s5; revert s3; revert s2; revert s0; refine kp4 hs rfl ?_; intro s0 s2 s3 s5
      clear s28 s32
      have s33 := hd 33 rfl (by decide)
      replace e_w := e_w.trans x
      replace e_w8 := e_w8.trans x
      clear e_w17
      have e_w31 := x
      replace m16 := m16.tr hs rfl; clear hd hs x
      refine Q1x ⟨e_w, PxS.blkS (Q00 e_w8 s3)⟩ ?_
      refine Q0n (i := 7) hr rfl (by decide) (by kernel_rfl) (fun _ _ _ _ h => Q1w (by decide) h) (yh (Q1p (Q0h s33) (Q3s))) ⟨e_w, PxS.blkS (Q00 e_w8 s3)⟩ ?_; clear hr; intro a33 hr hd hs
      revert s5; revert s3; revert s2; revert s0; refine kp4 hs rfl ?_; intro s0 s2 s3 s5
      clear s33
      have s26 := hd
      replace m16 := m16.tr hs rfl
      clear hd hs
      refine Q0n (i := 8) hr rfl (by decide) (by kernel_rfl) (fun _ _ _ _ h => Q1w (by decide) h) (yh (Q1p (Q2t s26) (Q3r rfl s26))) ⟨e_w, PxS.blkS (Q00 e_w8 s3)⟩ ?_; clear hr; intro a34 hr hd hs
      revert s26; revert s5; revert s3; revert s2; revert s0; refine kp5 hs rfl ?_; intro s0 s2 s3 s5 s26
      have s34 := hd
      replace m16 := m16.tr hs rfl
      clear hd hs
      refine Q0n (i := 9) hr rfl (by decide) (by kernel_rfl) (fun _ _ _ _ h => Q1w (by decide) h) (yh (Q1p (Q2u s26) (Q3r rfl s26))) ⟨e_w, PxS.blkS (Q00 e_w8 s3)⟩ ?_; clear hr; intro a35 hr hd hs
      revert s34; revert s5; revert s3; revert s2; revert s0; refine kp5 hs rfl ?_; intro s0 s2 s3 s5 s34
      clear s26
      have s35 := hd
      replace m16 := m16.tr hs rfl
      clear hd hs
      refine Q2a (i := 11) (by kernel_rfl) rfl ?_
      ·
       have z36 := PxS.lt (Q00 e_w31 s5)
       have l36 := (show (g31_5 = 0 ∨ w.heap.size < g31_5) ∧ True from ⟨by omega, trivial⟩)
       have l36_2 := PxS.lt (Q00 e_w8 s2)
       have l36_3 := PxS.lt (Q00 e_w8 s3)
       have l36_gL := OwnRA.lt (Q00 e_w8 gL)
       refine Q19 (Q66 (pkN l).1) hr Q8g (Q00 e_w31 s5) (Is.conv s34 (show _ = Qeo (pkN l).1 from rfl)) (by exact Qbb (Q74 _ _)) (by exact Q9b) rfl ?_; clear hr; intro a36 w36 hc hu hr hs
       have hb : Below w.heap.size w32 w36 := hc.below e_w.size l36.1
       revert s35; revert s5; revert s3; revert s2; revert s0; refine kp5 hs rfl ?_; intro s0 s2 s3 s5 s35
       clear s34
       replace s2 := PxS.other (Q00 e_w8 s2) hc (by omega)
       replace s3 := PxS.other (Q00 e_w8 s3) hc (by omega)
       replace s5 := hu _ _ _ (Q00 e_w31 s5)
       try simp only [List.set_cons_zero, List.set_cons_succ, lnkS] at s5
       replace gL := OwnRA.other (Q00 e_w8 gL) hc (by omega)
       replace e_w := e_w.below (Nat.le_refl _) hb
       clear e_w8
       clear e_w31
       replace s35 := anyw (w2 := w36) s35
       replace m16 := m16.tr hs rfl
       clear hu hs hc hb
       refine Q1x ⟨e_w, PxS.blkS s3⟩ ?_
       refine Q0n (i := 12) hr rfl (by decide) (by kernel_rfl) (fun _ _ _ _ h => Q1w (by decide) h) (yh (Q1p (Q03 s35) (Q36))) ⟨e_w, PxS.blkS s3⟩ ?_; clear hr; intro a37 hr hd hs
       revert s5; revert s3; revert s2; revert s0; refine kp4 hs rfl ?_; intro s0 s2 s3 s5
       clear s35
       have s4 := hd
       replace m16 := m16.tr hs rfl
       clear hd hs
       refine Q44 (by kernel_rfl) ?_
       refine et ?_
       refine ⟨g31_5, hr, m16, e_w, (by first | assumption | omega), (by first | assumption | omega), ?_, ?_, ?_, ?_⟩
       · exact s2
       · exact s3
       · exact s4
       · exact s5
   intro a16 w16 hI
   clear e_w
   clear e_w8
   clear hr; obtain ⟨δ, hr, hs, e_w, d2, d3, u2, u3, u4, u5⟩ := hI
   revert s0; refine kp1 hs rfl ?_; intro s0
   clear s2 s3
   have s2 := u2; clear u2
   have s3 := u3; clear u3
   have s4 := u4; clear u4
   have s5 := u5; clear u5
   clear hs
   refine sq ?_
   refine Q06 (l := [_, _]) (rest := [_]) 95 [[(4, none)], [(36, some 0)]] [?b38_0, ?b38_1] hr ?t38 ?o38 ?_
   case o38 =>
    apply oc0; intro A W hx hf
    exact Q01 (a0 := a16) (r0 hf)
    apply oc0; intro A W hx hf
    exact Q1i (p1 s4 hx (q0 ?b38_0 A W 36 hf)) (ec A (.int .i64 0))
    exact onn
   case t38 => exact inferInstance
   clear hr; intro a39 w39 x hr hd hs
   revert s5; revert s3; revert s2; revert s0; refine kp4 hs rfl ?_; intro s0 s2 s3 s5
   clear s4
   have s37 := fa ?b38_1 a39 w39 37 (hd 1 37 rfl)
   replace e_w := e_w.trans x
   have e_w16 := x; clear hd hs x
   refine Q4c s37 (fun hk3 => ?_) (fun hk3 => ?_)
   ·
    refine Q11 hr (Q8n s37 hk3) inferInstance ?_; clear hr; intro a40 w40 x hr hd hs
    have hN : (pkN l).2 = 0 := by simpa using hk3
    obtain ⟨z1, z2, z3⟩ : 20 ≤ (pkN l).1.head ∧ (pkN l).1.head ≤ (pkN l).1.total ∧ (pkN l).1.total ≤ ((l.drop (pkA l)).length : Int) := Qj3 hN
    rw [List.length_drop] at z3
    revert s5; revert s3; revert s2; revert s0; refine kp4 hs rfl ?_; intro s0 s2 s3 s5
    clear s37
    replace e_w := e_w.trans x
    replace e_w16 := e_w16.trans x; clear hd hs x
    refine wpList_nil ?_
    refine es ?_
    refine Q06 (l := [_, _, _]) (rest := [_]) 95 [[(5, none)], [(39, some 0)], [(40, some 1)]] [?b41_0, ?b41_1, ?b41_2] hr ?t41 ?o41 ?_
    case o41 =>
     apply oc0; intro A W hx hf
     exact Q02 3 Q73 (k := 3) rfl Q4r rfl (o2 s5 e_w16 hx (r0 hf)) rfl
     apply oc0; intro A W hx hf
     exact Q0a tu4 rfl (q0 ?b41_0 A W 39 hf) rfl
     apply oc0; intro A W hx hf
     exact Q43 (q0 ?b41_1 A W 40 hf)
     exact onn
    case t41 => exact inferInstance
    clear hr; intro a42 w42 x hr hd hs
    revert s5; revert s3; revert s2; revert s0; refine kp4 hs rfl ?_; intro s0 s2 s3 s5
    have s41 := fa ?b41_2 a42 w42 41 (hd 2 41 rfl)
    replace e_w := e_w.trans x
    replace e_w16 := e_w16.trans x; clear hd hs x
    refine Q4c s41 (fun hk4 => ?_) (fun hk4 => ?_)
    ·
     refine Q11 hr (Q8n s41 hk4) inferInstance ?_; clear hr; intro a43 w43 x hr hd hs
     have hfr : (pkN l).1.frag = false := by simpa using hk4
     revert s5; revert s3; revert s2; revert s0; refine kp4 hs rfl ?_; intro s0 s2 s3 s5
     clear s41
     replace e_w := e_w.trans x
     replace e_w16 := e_w16.trans x; clear hd hs x
     refine wpList_nil ?_
     refine es ?_
     refine Q06 (l := [_, _, _]) (rest := [_]) 95 [[(5, none)], [(43, some 0)], [(44, some 1)]] [?b44_0, ?b44_1, ?b44_2] hr ?t44 ?o44 ?_
     case o44 =>
      apply oc0; intro A W hx hf
      exact Q02 2 Q73 (k := 2) rfl Q0m rfl (o2 s5 e_w16 hx (r0 hf)) rfl
      apply oc0; intro A W hx hf
      exact Q0a tu3 rfl (q0 ?b44_0 A W 43 hf) rfl
      apply oc0; intro A W hx hf
      exact Q18 Qq1 (Qk9 (q0 ?b44_1 A W 44 hf))
      exact onn
     case t44 => exact inferInstance
     clear hr; intro a45 w45 x hr hd hs
     revert s5; revert s3; revert s2; revert s0; refine kp4 hs rfl ?_; intro s0 s2 s3 s5
     have s45 := fa ?b44_2 a45 w45 45 (hd 2 45 rfl)
     replace e_w := e_w.trans x
     replace e_w16 := e_w16.trans x; clear hd hs x
     refine Q4c s45 (fun hk5 => ?_) (fun hk5 => ?_)
     ·
      refine Q11 hr (Q8n s45 hk5) inferInstance ?_; clear hr; intro a46 w46 x hr hd hs
      have hca : Q5p (pkN l).1.proto = true := by simpa using hk5
      revert s5; revert s3; revert s2; revert s0; refine kp4 hs rfl ?_; intro s0 s2 s3 s5
      clear s45
      replace e_w := e_w.trans x
      replace e_w16 := e_w16.trans x; clear hd hs x
      refine wpList_nil ?_
      refine es ?_
      refine Q33 (fun A W => ∃ (ε : Nat), FrD [Qm4 (.pointer (some ⟨g2_2 - 1, 0, none⟩))] 95 A ∧ Same Q93 a46 A ∧ Ext w W ∧ (g2_2 ≠ ε) ∧ (g7_3 ≠ ε) ∧ (δ ≠ ε) ∧ (PxS g2_2 w.heap.size [42] [(pktS (give 0)).flatten] 0) (A.eval (.tmp 2)) W ∧ (PxS g7_3 w.heap.size [6, 6, 1, 1, 1] (lnkS (Q0c l).1 sv12) 0) (A.eval (.tmp 3)) W ∧ (Is (.int .i64 (Q0i (pkN l).1.proto (pkP l)).2)) (A.eval (.tmp 4)) W ∧ (PxS δ w.heap.size [1, 1, 1, 1, 1, 16, 1, 16] (Q66 (pkN l).1) 0) (A.eval (.tmp 5)) W ∧ (PxS ε w.heap.size [1, 1, 1, 1, 1] (Q2q (Q0i (pkN l).1.proto (pkP l)).1) 0) (A.eval (.tmp 6)) W) ?cut47 ?_
      case cut47 =>
       have m47 : Same Q93 a46 a46 := Same.rfl
       refine Q4a (fun W => Below w.heap.size w W ∧ BlkS g7_3 [6, 6, 1, 1, 1] _ W ∧ BlkS δ [1, 1, 1, 1, 1, 16, 1, 16] _ W) Q08 (fun w' x => ⟨(e_w.trans x), PxS.blkS (Q00 (e_w16.trans x) s3), PxS.blkS (Q00 (e_w16.trans x) s5)⟩) (fun w48 x _ => ?_)
       show wpAnyH _ _ _ _ _ 21 _ _ _
       replace e_w := e_w.trans x
       replace e_w16 := e_w16.trans x
       clear x
       refine Q0n (i := 0) hr rfl (by decide) (by kernel_rfl) (fun _ _ _ _ h => Q1w (by decide) h) (yh (Q1p (Q02 2 Q73 (k := 2) rfl Q0m rfl (Q00 e_w16 s5) rfl) (Q42 Q73 (k := 2) rfl Q0m rfl (PxS.cells (Q00 e_w16 s5))))) ⟨e_w, PxS.blkS (Q00 e_w16 s3), PxS.blkS (Q00 e_w16 s5)⟩ ?_; clear hr; intro a49 hr hd hs
       revert s5; revert s3; revert s2; revert s0; refine kp4 hs rfl ?_; intro s0 s2 s3 s5
       have s48 := hd
       replace m47 := m47.tr hs rfl
       clear hd hs
       refine Q0n (i := 1) hr rfl (by decide) (by kernel_rfl) (fun _ _ _ _ h => Q1w (by decide) h) (Q4e tu3 rfl s48 (fun W hW => hW.2.2) rfl) ⟨e_w, PxS.blkS (Q00 e_w16 s3), PxS.blkS (Q00 e_w16 s5)⟩ ?_; clear hr; intro a50 hr hd hs
       revert s5; revert s3; revert s2; revert s0; refine kp4 hs rfl ?_; intro s0 s2 s3 s5
       clear s48
       have s49 := hd
       replace m47 := m47.tr hs rfl
       clear hd hs
       refine Q0n (i := 2) hr rfl (by decide) (by kernel_rfl) (fun _ _ _ _ h => Q1w (by decide) h) (yh (Q1p (Q0h (show AtW w _ _ _ from s0)) (Q3s))) ⟨e_w, PxS.blkS (Q00 e_w16 s3), PxS.blkS (Q00 e_w16 s5)⟩ ?_; clear hr; intro a51 hr hd hs
       revert s49; revert s5; revert s3; revert s2; refine kp4 hs rfl ?_; intro s2 s3 s5 s49
       clear s0
       have s50 := AtW.base hd
       replace m47 := m47.tr hs rfl
       clear hd hs
       refine Q0n (i := 3) hr rfl (by decide) (by kernel_rfl) (fun _ _ _ _ h => Q1w (by decide) h) (yh (Q1p (Q02 4 tu46 (k := 4) rfl Q0m rfl (Q00 e_w16 s3) rfl) (Q42 tu46 (k := 4) rfl Q0m rfl (PxS.cells (Q00 e_w16 s3))))) ⟨e_w, PxS.blkS (Q00 e_w16 s3), PxS.blkS (Q00 e_w16 s5)⟩ ?_; clear hr; intro a52 hr hd hs
       revert s50; revert s49; revert s5; revert s3; revert s2; refine kp5 hs rfl ?_; intro s2 s3 s5 s49 s50
       have s51 := hd
       replace m47 := m47.tr hs rfl
       clear hd hs
       refine Q0n (i := 4) hr rfl (by decide) (by kernel_rfl) (fun _ _ _ _ h => Q1w (by decide) h) (Q4e tu3 rfl s51 (fun W hW => hW.2.1) rfl) ⟨e_w, PxS.blkS (Q00 e_w16 s3), PxS.blkS (Q00 e_w16 s5)⟩ ?_; clear hr; intro a53 hr hd hs
       revert s50; revert s49; revert s5; revert s3; revert s2; refine kp5 hs rfl ?_; intro s2 s3 s5 s49 s50
       clear s51
       have s52 := hd
       replace m47 := m47.tr hs rfl
       clear hd hs
       refine Q0n (i := 5) hr rfl (by decide) (by kernel_rfl) (fun _ _ _ _ h => Q1w (by decide) h) (yh (Q1p (Q02 0 Q73 (k := 0) rfl Q0m rfl (Q00 e_w16 s5) rfl) (Q42 Q73 (k := 0) rfl Q0m rfl (PxS.cells (Q00 e_w16 s5))))) ⟨e_w, PxS.blkS (Q00 e_w16 s3), PxS.blkS (Q00 e_w16 s5)⟩ ?_; clear hr; intro a54 hr hd hs
       revert s52; revert s50; revert s49; revert s5; revert s3; revert s2; refine kp6 hs rfl ?_; intro s2 s3 s5 s49 s50 s52
       have s53 := hd
       replace m47 := m47.tr hs rfl
       clear hd hs
       refine Q0n (i := 6) hr rfl (by decide) (by kernel_rfl) (fun _ _ _ _ h => Q1w (by decide) h) (Q4e tu3 rfl s53 (fun W hW => hW.2.2) rfl) ⟨e_w, PxS.blkS (Q00 e_w16 s3), PxS.blkS (Q00 e_w16 s5)⟩ ?_; clear hr; intro a55 hr hd hs
       revert s52; revert s50; revert s49; revert s5; revert s3; revert s2; refine kp6 hs rfl ?_; intro s2 s3 s5 s49 s50 s52
       clear s53
       have s54 := hd
       replace m47 := m47.tr hs rfl
       clear hd hs
       refine Q0n (i := 7) hr rfl (by decide) (by kernel_rfl) (fun _ _ _ _ h => Q1w (by decide) h) (yh (Q1p (Q0o s52 s54 (by show (-9223372036854775808 : Int) ≤ (Q0c l).1.at' + (pkN l).1.head ∧ (Q0c l).1.at' + (pkN l).1.head ≤ 9223372036854775807; omega)) (Qfv (by simp) s52 s54 rfl))) ⟨e_w, PxS.blkS (Q00 e_w16 s3), PxS.blkS (Q00 e_w16 s5)⟩ ?_; clear hr; intro a56 hr hd hs
       revert s50; revert s49; revert s5; revert s3; revert s2; refine kp5 hs rfl ?_; intro s2 s3 s5 s49 s50
       clear s52 s54
       have s55 := hd
       replace m47 := m47.tr hs rfl
       clear hd hs
       refine Q0n (i := 8) hr rfl (by decide) (by kernel_rfl) (fun _ _ _ _ h => Q1w (by decide) h) (yh (Q1p (Q02 4 tu46 (k := 4) rfl Q0m rfl (Q00 e_w16 s3) rfl) (Q42 tu46 (k := 4) rfl Q0m rfl (PxS.cells (Q00 e_w16 s3))))) ⟨e_w, PxS.blkS (Q00 e_w16 s3), PxS.blkS (Q00 e_w16 s5)⟩ ?_; clear hr; intro a57 hr hd hs
       revert s55; revert s50; revert s49; revert s5; revert s3; revert s2; refine kp6 hs rfl ?_; intro s2 s3 s5 s49 s50 s55
       have s56 := hd
       replace m47 := m47.tr hs rfl
       clear hd hs
       refine Q0n (i := 9) hr rfl (by decide) (by kernel_rfl) (fun _ _ _ _ h => Q1w (by decide) h) (Q4e tu3 rfl s56 (fun W hW => hW.2.1) rfl) ⟨e_w, PxS.blkS (Q00 e_w16 s3), PxS.blkS (Q00 e_w16 s5)⟩ ?_; clear hr; intro a58 hr hd hs
       revert s55; revert s50; revert s49; revert s5; revert s3; revert s2; refine kp6 hs rfl ?_; intro s2 s3 s5 s49 s50 s55
       clear s56
       have s57 := hd
       replace m47 := m47.tr hs rfl
       clear hd hs
       refine Q0n (i := 10) hr rfl (by decide) (by kernel_rfl) (fun _ _ _ _ h => Q1w (by decide) h) (yh (Q1p (Q02 1 Q73 (k := 1) rfl Q0m rfl (Q00 e_w16 s5) rfl) (Q42 Q73 (k := 1) rfl Q0m rfl (PxS.cells (Q00 e_w16 s5))))) ⟨e_w, PxS.blkS (Q00 e_w16 s3), PxS.blkS (Q00 e_w16 s5)⟩ ?_; clear hr; intro a59 hr hd hs
       revert s55; revert s50; revert s49; revert s5; revert s3; revert s2; refine kp6 hs rfl ?_; intro s2 s3 s5 s49 s50 s55
       revert s57; refine kp1 hs rfl ?_; intro s57
       have s58 := hd
       replace m47 := m47.tr hs rfl
       clear hd hs
       refine Q0n (i := 11) hr rfl (by decide) (by kernel_rfl) (fun _ _ _ _ h => Q1w (by decide) h) (Q4e tu3 rfl s58 (fun W hW => hW.2.2) rfl) ⟨e_w, PxS.blkS (Q00 e_w16 s3), PxS.blkS (Q00 e_w16 s5)⟩ ?_; clear hr; intro a60 hr hd hs
       revert s55; revert s50; revert s49; revert s5; revert s3; revert s2; refine kp6 hs rfl ?_; intro s2 s3 s5 s49 s50 s55
       revert s57; refine kp1 hs rfl ?_; intro s57
       clear s58
       have s59 := hd
       replace m47 := m47.tr hs rfl
       clear hd hs
       refine Q0n (i := 12) hr rfl (by decide) (by kernel_rfl) (fun _ _ _ _ h => Q1w (by decide) h) (yh (Q1p (Q0o s57 s59 (by show (-9223372036854775808 : Int) ≤ (Q0c l).1.at' + (pkN l).1.total ∧ (Q0c l).1.at' + (pkN l).1.total ≤ 9223372036854775807; omega)) (Qfv (by simp) s57 s59 rfl))) ⟨e_w, PxS.blkS (Q00 e_w16 s3), PxS.blkS (Q00 e_w16 s5)⟩ ?_; clear hr; intro a61 hr hd hs
       revert s55; revert s50; revert s49; revert s5; revert s3; revert s2; refine kp6 hs rfl ?_; intro s2 s3 s5 s49 s50 s55
       clear s57 s59
       have s60 := hd
       replace m47 := m47.tr hs rfl
       clear hd hs
       refine Q0n (i := 13) hr rfl (by decide) (by kernel_rfl) (fun _ _ _ _ h => Q1w (by decide) h) (yh (Q1p (Q3x (pkA l + (pkN l).1.head.toNat) (pkA l + (pkN l).1.total.toNat) tu22 Q0s (Q00 e_w s50) (Is.int s55 (by show (Q0c l).1.at' + (pkN l).1.head = _; omega)) (Is.int s60 (by show (Q0c l).1.at' + (pkN l).1.total = _; omega)) (by omega) (by omega)) (Qeg (pkA l + (pkN l).1.head.toNat) (pkA l + (pkN l).1.total.toNat) tu22 Q0s (Q00 e_w s50) (Is.int s55 (by show (Q0c l).1.at' + (pkN l).1.head = _; omega)) (Is.int s60 (by show (Q0c l).1.at' + (pkN l).1.total = _; omega)) (by omega) (by omega)))) ⟨e_w, PxS.blkS (Q00 e_w16 s3), PxS.blkS (Q00 e_w16 s5)⟩ ?_; clear hr; intro a62 hr hd hs
       revert s49; revert s5; revert s3; revert s2; refine kp4 hs rfl ?_; intro s2 s3 s5 s49
       clear s50 s55 s60
       have s61 := hd
       replace m47 := m47.tr hs rfl
       clear hd hs
       refine Q99 (i := 14) (j := 18) (by kernel_rfl) rfl rfl ?_ ?_
       ·
        refine Q11 hr (Q0p Qmt (Qka s49 s61)) inferInstance ?_; clear hr; intro a63 w63 x hr hd hs
        revert s5; revert s3; revert s2; refine kp3 hs rfl ?_; intro s2 s3 s5
        clear s49 s61
        have s62 := hd 62 rfl (by decide)
        replace e_w := e_w.trans x
        replace e_w16 := e_w16.trans x
        replace m47 := m47.tr hs rfl; clear hd hs x
        refine Q1x ⟨e_w, PxS.blkS (Q00 e_w16 s3), PxS.blkS (Q00 e_w16 s5)⟩ ?_
        refine Q0n (i := 15) hr rfl (by decide) (by kernel_rfl) (fun _ _ _ _ h => Q1w (by decide) h) (yh (Q1p (Q0h s62) (Q3s))) ⟨e_w, PxS.blkS (Q00 e_w16 s3), PxS.blkS (Q00 e_w16 s5)⟩ ?_; clear hr; intro a64 hr hd hs
        revert s5; revert s3; revert s2; refine kp3 hs rfl ?_; intro s2 s3 s5
        clear s62
        have s47 := hd
        replace m47 := m47.tr hs rfl
        clear hd hs
        refine Q0n (i := 16) hr rfl (by decide) (by kernel_rfl) (fun _ _ _ _ h => Q1w (by decide) h) (yh (Q1p (Q2t s47) (Q3r rfl s47))) ⟨e_w, PxS.blkS (Q00 e_w16 s3), PxS.blkS (Q00 e_w16 s5)⟩ ?_; clear hr; intro a65 hr hd hs
        revert s47; revert s5; revert s3; revert s2; refine kp4 hs rfl ?_; intro s2 s3 s5 s47
        have s63 := hd
        replace m47 := m47.tr hs rfl
        clear hd hs
        refine Q0n (i := 17) hr rfl (by decide) (by kernel_rfl) (fun _ _ _ _ h => Q1w (by decide) h) (yh (Q1p (Q2u s47) (Q3r rfl s47))) ⟨e_w, PxS.blkS (Q00 e_w16 s3), PxS.blkS (Q00 e_w16 s5)⟩ ?_; clear hr; intro a66 hr hd hs
        revert s63; revert s5; revert s3; revert s2; refine kp4 hs rfl ?_; intro s2 s3 s5 s63
        clear s47
        have s64 := hd
        replace m47 := m47.tr hs rfl
        clear hd hs
        refine Q2a (i := 18) (by kernel_rfl) rfl ?_
        ·
         have l67_2 := PxS.lt (Q00 e_w16 s2)
         have l67_3 := PxS.lt (Q00 e_w16 s3)
         have l67_5 := PxS.lt (Q00 e_w16 s5)
         refine Q11 hr (Q0y (Q2q Q2z) [1, 1, 1, 1, 1] Q5o (by rfl) (by rfl) (Nat.le_refl _)) inferInstance ?_; clear hr; intro a67 w67 x hr hd hs
         revert s64; revert s63; revert s5; revert s3; revert s2; refine kp5 hs rfl ?_; intro s2 s3 s5 s63 s64
         have s6 := hd 6 rfl (by decide)
         obtain ⟨g67_6, q67_6⟩ := PxN.at s6; clear s6; have n67_6 := PxS.lt q67_6
         replace q67_6 := PxS.mono q67_6 e_w.size
         have s6 := q67_6; clear q67_6
         replace e_w := e_w.trans x
         replace e_w16 := e_w16.trans x
         have e_w63 := x
         replace m47 := m47.tr hs rfl; clear hd hs x
         refine Q1x ⟨e_w, PxS.blkS (Q00 e_w16 s3), PxS.blkS (Q00 e_w16 s5)⟩ ?_
         refine Q2a (i := 19) (by kernel_rfl) rfl ?_
         ·
          have z68 := PxS.lt s6
          have l68 := (show (g67_6 = 0 ∨ w.heap.size < g67_6) ∧ True from ⟨by omega, trivial⟩)
          have l68_2 := PxS.lt (Q00 e_w16 s2)
          have l68_3 := PxS.lt (Q00 e_w16 s3)
          have l68_5 := PxS.lt (Q00 e_w16 s5)
          refine Q19 (Q2q (Q0i (pkN l).1.proto (pkP l)).1) hr Q1j s6 (Q00 e_w63 s63) (by rfl) (by exact Q1r) rfl ?_; clear hr; intro a68 w68 hc hu hr hs
          have hb : Below w.heap.size w67 w68 := hc.below e_w.size l68.1
          revert s6; revert s64; revert s5; revert s3; revert s2; refine kp5 hs rfl ?_; intro s2 s3 s5 s64 s6
          clear s63
          replace s2 := PxS.other (Q00 e_w16 s2) hc (by omega)
          replace s3 := PxS.other (Q00 e_w16 s3) hc (by omega)
          replace s5 := PxS.other (Q00 e_w16 s5) hc (by omega)
          replace s6 := hu _ _ _ s6
          try simp only [List.set_cons_zero, List.set_cons_succ, lnkS] at s6
          replace e_w := e_w.below (Nat.le_refl _) hb
          clear e_w16
          clear e_w63
          replace s64 := anyw (w2 := w68) s64
          replace m47 := m47.tr hs rfl
          clear hu hs hc hb
          refine Q1x ⟨e_w, PxS.blkS s3, PxS.blkS s5⟩ ?_
          refine Q0n (i := 20) hr rfl (by decide) (by kernel_rfl) (fun _ _ _ _ h => Q1w (by decide) h) (yh (Q1p (Q03 s64) (Q36))) ⟨e_w, PxS.blkS s3, PxS.blkS s5⟩ ?_; clear hr; intro a69 hr hd hs
          revert s6; revert s5; revert s3; revert s2; refine kp4 hs rfl ?_; intro s2 s3 s5 s6
          clear s64
          have s4 := hd
          replace m47 := m47.tr hs rfl
          clear hd hs
          refine Q44 (by kernel_rfl) ?_
          refine et ?_
          refine ⟨g67_6, hr, m47, e_w, (by first | assumption | omega), (by first | assumption | omega), (by first | assumption | omega), ?_, ?_, ?_, ?_, ?_⟩
          · exact s2
          · exact s3
          · exact s4
          · exact s5
          · exact s6
       ·
        have l70_2 := PxS.lt (Q00 e_w16 s2)
        have l70_3 := PxS.lt (Q00 e_w16 s3)
        have l70_5 := PxS.lt (Q00 e_w16 s5)
        refine Q11 hr (Q0y (Q2q Q2z) [1, 1, 1, 1, 1] Q5o (by rfl) (by rfl) (Nat.le_refl _)) inferInstance ?_; clear hr; intro a70 w70 x hr hd hs
        revert s61; revert s49; revert s5; revert s3; revert s2; refine kp5 hs rfl ?_; intro s2 s3 s5 s49 s61
        have s6 := hd 6 rfl (by decide)
        obtain ⟨g70_6, q70_6⟩ := PxN.at s6; clear s6; have n70_6 := PxS.lt q70_6
        replace q70_6 := PxS.mono q70_6 e_w.size
        have s6 := q70_6; clear q70_6
        replace e_w := e_w.trans x
        replace e_w16 := e_w16.trans x
        have e_w48 := x
        replace m47 := m47.tr hs rfl; clear hd hs x
        refine Q1x ⟨e_w, PxS.blkS (Q00 e_w16 s3), PxS.blkS (Q00 e_w16 s5)⟩ ?_
        refine Q2a (i := 14) (by kernel_rfl) rfl ?_
        ·
         refine Q11 hr (Q0p Qmt (Qka (Q00 e_w48 s49) (Q00 e_w48 s61))) inferInstance ?_; clear hr; intro a71 w71 x hr hd hs
         revert s6; revert s5; revert s3; revert s2; refine kp4 hs rfl ?_; intro s2 s3 s5 s6
         clear s49 s61
         have s62 := hd 62 rfl (by decide)
         replace e_w := e_w.trans x
         replace e_w16 := e_w16.trans x
         clear e_w48
         have e_w70 := x
         replace m47 := m47.tr hs rfl; clear hd hs x
         refine Q1x ⟨e_w, PxS.blkS (Q00 e_w16 s3), PxS.blkS (Q00 e_w16 s5)⟩ ?_
         refine Q0n (i := 15) hr rfl (by decide) (by kernel_rfl) (fun _ _ _ _ h => Q1w (by decide) h) (yh (Q1p (Q0h s62) (Q3s))) ⟨e_w, PxS.blkS (Q00 e_w16 s3), PxS.blkS (Q00 e_w16 s5)⟩ ?_; clear hr; intro a72 hr hd hs
         revert s6; revert s5; revert s3; revert s2; refine kp4 hs rfl ?_; intro s2 s3 s5 s6
         clear s62
         have s47 := hd
         replace m47 := m47.tr hs rfl
         clear hd hs
         refine Q0n (i := 16) hr rfl (by decide) (by kernel_rfl) (fun _ _ _ _ h => Q1w (by decide) h) (yh (Q1p (Q2t s47) (Q3r rfl s47))) ⟨e_w, PxS.blkS (Q00 e_w16 s3), PxS.blkS (Q00 e_w16 s5)⟩ ?_; clear hr; intro a73 hr hd hs
         revert s47; revert s6; revert s5; revert s3; revert s2; refine kp5 hs rfl ?_; intro s2 s3 s5 s6 s47
         have s63 := hd
         replace m47 := m47.tr hs rfl
         clear hd hs
         refine Q0n (i := 17) hr rfl (by decide) (by kernel_rfl) (fun _ _ _ _ h => Q1w (by decide) h) (yh (Q1p (Q2u s47) (Q3r rfl s47))) ⟨e_w, PxS.blkS (Q00 e_w16 s3), PxS.blkS (Q00 e_w16 s5)⟩ ?_; clear hr; intro a74 hr hd hs
         revert s63; revert s6; revert s5; revert s3; revert s2; refine kp5 hs rfl ?_; intro s2 s3 s5 s6 s63
         clear s47
         have s64 := hd
         replace m47 := m47.tr hs rfl
         clear hd hs
         refine Q2a (i := 19) (by kernel_rfl) rfl ?_
         ·
          have z75 := PxS.lt (Q00 e_w70 s6)
          have l75 := (show (g70_6 = 0 ∨ w.heap.size < g70_6) ∧ True from ⟨by omega, trivial⟩)
          have l75_2 := PxS.lt (Q00 e_w16 s2)
          have l75_3 := PxS.lt (Q00 e_w16 s3)
          have l75_5 := PxS.lt (Q00 e_w16 s5)
          refine Q19 (Q2q (Q0i (pkN l).1.proto (pkP l)).1) hr Q1j (Q00 e_w70 s6) s63 (by rfl) (by exact Q1r) rfl ?_; clear hr; intro a75 w75 hc hu hr hs
          have hb : Below w.heap.size w71 w75 := hc.below e_w.size l75.1
          revert s64; revert s6; revert s5; revert s3; revert s2; refine kp5 hs rfl ?_; intro s2 s3 s5 s6 s64
          clear s63
          replace s2 := PxS.other (Q00 e_w16 s2) hc (by omega)
          replace s3 := PxS.other (Q00 e_w16 s3) hc (by omega)
          replace s5 := PxS.other (Q00 e_w16 s5) hc (by omega)
          replace s6 := hu _ _ _ (Q00 e_w70 s6)
          try simp only [List.set_cons_zero, List.set_cons_succ, lnkS] at s6
          replace e_w := e_w.below (Nat.le_refl _) hb
          clear e_w16
          clear e_w70
          replace s64 := anyw (w2 := w75) s64
          replace m47 := m47.tr hs rfl
          clear hu hs hc hb
          refine Q1x ⟨e_w, PxS.blkS s3, PxS.blkS s5⟩ ?_
          refine Q0n (i := 20) hr rfl (by decide) (by kernel_rfl) (fun _ _ _ _ h => Q1w (by decide) h) (yh (Q1p (Q03 s64) (Q36))) ⟨e_w, PxS.blkS s3, PxS.blkS s5⟩ ?_; clear hr; intro a76 hr hd hs
          revert s6; revert s5; revert s3; revert s2; refine kp4 hs rfl ?_; intro s2 s3 s5 s6
          clear s64
          have s4 := hd
          replace m47 := m47.tr hs rfl
          clear hd hs
          refine Q44 (by kernel_rfl) ?_
          refine et ?_
          refine ⟨g70_6, hr, m47, e_w, (by first | assumption | omega), (by first | assumption | omega), (by first | assumption | omega), ?_, ?_, ?_, ?_, ?_⟩
          · exact s2
          · exact s3
          · exact s4
          · exact s5
          · exact s6
      intro a47 w47 hI
      clear e_w
      clear e_w16
      clear hr; obtain ⟨ε, hr, hs, e_w, e2, e3, e5, u2, u3, u4, u5, u6⟩ := hI
      clear s0 s2 s3 s5
      have s2 := u2; clear u2
      have s3 := u3; clear u3
      have s4 := u4; clear u4
      have s5 := u5; clear u5
      have s6 := u6; clear u6
      clear hs
      refine sq ?_
      refine Q06 (l := [_, _]) (rest := [_]) 95 [[(4, none)], [(65, some 0)]] [?b77_0, ?b77_1] hr ?t77 ?o77 ?_
      case o77 =>
       apply oc0; intro A W hx hf
       exact Q01 (a0 := a47) (r0 hf)
       apply oc0; intro A W hx hf
       exact Q1i (p1 s4 hx (q0 ?b77_0 A W 65 hf)) (ec A (.int .i64 0))
       exact onn
      case t77 => exact inferInstance
      clear hr; intro a78 w78 x hr hd hs
      revert s6; revert s5; revert s3; revert s2; refine kp4 hs rfl ?_; intro s2 s3 s5 s6
      clear s4
      have s66 := fa ?b77_1 a78 w78 66 (hd 1 66 rfl)
      replace e_w := e_w.trans x
      have e_w47 := x; clear hd hs x
      refine Q4c s66 (fun hk6 => ?_) (fun hk6 => ?_)
      ·
       refine Q11 hr (Q8n s66 hk6) inferInstance ?_; clear hr; intro a79 w79 x hr hd hs
       have hpe : (Q0i (pkN l).1.proto (pkP l)).2 = 0 := by simpa using hk6
       have hp : Q16 l = ⟨0, (⟨(pkN l).1.src, (pkN l).1.dst, (pkN l).1.proto, (Q0i (pkN l).1.proto (pkP l)).1.sport, (Q0i (pkN l).1.proto (pkP l)).1.dport⟩ : TupL), (Q0i (pkN l).1.proto (pkP l)).1.flags, (Q0c l).1.at', (Q0c l).1.at' + (pkN l).1.head, (Q0c l).1.at' + (pkN l).1.total⟩ := by unfold Q16; rw [if_neg (by rw [he]; decide)]; rw [if_neg (not_not_intro ht)]; rw [if_neg (by rw [hN]; decide)]; rw [if_neg (by rw [hfr]; decide)]; rw [if_neg (by rw [hca]; decide)]; rw [if_neg (by rw [hpe]; decide)]
       revert s6; revert s5; revert s3; revert s2; refine kp4 hs rfl ?_; intro s2 s3 s5 s6
       clear s66
       replace e_w := e_w.trans x
       replace e_w47 := e_w47.trans x; clear hd hs x
       refine wpList_nil ?_
       refine es ?_
       refine Q06 (l := [_, _, _, _, _, _, _, _, _, _, _, _]) (rest := [_]) 95 [[(5, none)], [(68, some 0)], [(5, none)], [(70, some 2)], [(5, none)], [(72, some 4)], [(6, none)], [(74, some 6)], [(6, none)], [(76, some 8)], [(69, some 1), (71, some 3), (73, some 5), (75, some 7), (77, some 9)], []] [?b80_0, ?b80_1, ?b80_2, ?b80_3, ?b80_4, ?b80_5, ?b80_6, ?b80_7, ?b80_8, ?b80_9, ?b80_10, ?b80_11] hr ?t80 ?o80 ?_
       case o80 =>
        apply oc0; intro A W hx hf
        exact Q02 4 Q73 (k := 4) rfl Q0z rfl (o2 s5 e_w47 hx (r0 hf)) rfl
        apply oc0; intro A W hx hf
        exact Q0b 6 tu25 rfl Q0z (q0 ?b80_0 A W 68 hf) rfl
        apply oc0; intro A W hx hf
        exact Q02 6 Q73 (k := 5) rfl Q0z rfl (o2 s5 e_w47 hx (r0 hf)) rfl
        apply oc0; intro A W hx hf
        exact Q0b 8 tu25 rfl Q0z (q0 ?b80_2 A W 70 hf) rfl
        apply oc0; intro A W hx hf
        exact Q02 2 Q73 (k := 2) rfl Q0m rfl (o2 s5 e_w47 hx (r0 hf)) rfl
        apply oc0; intro A W hx hf
        exact Q0a tu3 rfl (q0 ?b80_4 A W 72 hf) rfl
        apply oc0; intro A W hx hf
        exact Q02 0 tu66 (k := 0) rfl Q0m rfl (o2 s6 e_w47 hx (r0 hf)) rfl
        apply oc0; intro A W hx hf
        exact Q0a tu3 rfl (q0 ?b80_6 A W 74 hf) rfl
        apply oc0; intro A W hx hf
        exact Q02 1 tu66 (k := 1) rfl Q0m rfl (o2 s6 e_w47 hx (r0 hf)) rfl
        apply oc0; intro A W hx hf
        exact Q0a tu3 rfl (q0 ?b80_8 A W 76 hf) rfl
        apply oc0; intro A W hx hf
        exact Q1e [(0, (.tmp 69)), (1, (.tmp 71)), (2, (.tmp 73)), (3, (.tmp 75)), (4, (.tmp 77))] [(0, _), (1, _), (2, _), (3, _), (4, _)] Qqg rfl (PartsC.agg (q0 ?b80_1 A W 69 hf) (PartsC.agg (q1 ?b80_3 A W 71 hf) (PartsC.one (q2 ?b80_5 A W 73 hf) rfl (PartsC.one (q3 ?b80_7 A W 75 hf) rfl (PartsC.one (q4 ?b80_9 A W 77 hf) rfl (PartsC.nil)))))) (by simp [Q66, hs16, hd16])
        apply oc0; intro A W hx hf
        exact Q0y (tupS tup0) [1, 16, 1, 16, 1, 1, 1] Q9r (by rfl) (by rfl) hx.size
        exact onn
       case t80 => exact inferInstance
       clear hr; intro a81 w81 x hr hd hs
       have z_w_w79 := e_w.size
       have z_w47_w79 := e_w47.size
       have l81_2 := PxS.lt (Q00 e_w47 s2)
       have l81_3 := PxS.lt (Q00 e_w47 s3)
       have l81_5 := PxS.lt (Q00 e_w47 s5)
       have l81_6 := PxS.lt (Q00 e_w47 s6)
       revert s6; revert s5; revert s3; revert s2; refine kp4 hs rfl ?_; intro s2 s3 s5 s6
       have s78 := fa ?b80_10 a81 w81 78 (hd 10 78 rfl)
       have s7 := fa ?b80_11 a81 w81 7 (hd 11 7 rfl)
       obtain ⟨g81_7, q81_7⟩ := PxN.at s7; clear s7; have n81_7 := PxS.lt q81_7
       replace q81_7 := PxS.mono q81_7 e_w.size
       have s7 := q81_7; clear q81_7
       replace e_w := e_w.trans x
       replace e_w47 := e_w47.trans x; clear hd hs x
       have z82 := PxS.lt s7
       have l82 := (show (g81_7 = 0 ∨ w.heap.size < g81_7) ∧ True from ⟨by omega, trivial⟩)
       have l82_2 := PxS.lt (Q00 e_w47 s2)
       have l82_3 := PxS.lt (Q00 e_w47 s3)
       have l82_5 := PxS.lt (Q00 e_w47 s5)
       have l82_6 := PxS.lt (Q00 e_w47 s6)
       refine Q19 (tupS (⟨(pkN l).1.src, (pkN l).1.dst, (pkN l).1.proto, (Q0i (pkN l).1.proto (pkP l)).1.sport, (Q0i (pkN l).1.proto (pkP l)).1.dport⟩ : TupL)) hr Q37 s7 (Is.conv s78 (show _ = TupV (⟨(pkN l).1.src, (pkN l).1.dst, (pkN l).1.proto, (Q0i (pkN l).1.proto (pkP l)).1.sport, (Q0i (pkN l).1.proto (pkP l)).1.dport⟩ : TupL) from by simp [TupV, tupS, Q5b, Q0l, Q66])) (by exact Q39 ⟨hs16, hd16⟩) (by exact Q8h) rfl ?_; clear hr; intro a82 w82 hc hu hr hs
       have hb : Below w.heap.size w81 w82 := hc.below e_w.size l82.1
       revert s7; revert s6; revert s5; revert s3; revert s2; refine kp5 hs rfl ?_; intro s2 s3 s5 s6 s7
       clear s78
       replace s2 := PxS.other (Q00 e_w47 s2) hc (by omega)
       replace s3 := PxS.other (Q00 e_w47 s3) hc (by omega)
       replace s5 := PxS.other (Q00 e_w47 s5) hc (by omega)
       replace s6 := PxS.other (Q00 e_w47 s6) hc (by omega)
       replace s7 := hu _ _ _ s7
       try simp only [List.set_cons_zero, List.set_cons_succ, lnkS] at s7
       replace e_w := e_w.below (Nat.le_refl _) hb
       clear e_w47
       clear hu hs hc hb
       refine wpList_nil ?_
       refine es ?_
       refine Q06 (l := [_, _, _, _, _, _, _, _, _, _, _, _, _, _, _, _]) (rest := [_]) 95 [[(7, none)], [(6, none)], [(80, some 1)], [(3, none)], [(82, some 3)], [(3, none)], [(84, some 5)], [(5, none)], [(86, some 7)], [(85, some 6), (87, some 8)], [(3, none)], [(89, some 10)], [(5, none)], [(91, some 12)], [(90, some 11), (92, some 13)], [(79, some 0), (81, some 2), (83, some 4), (88, some 9), (93, some 14)]] [?b83_0, ?b83_1, ?b83_2, ?b83_3, ?b83_4, ?b83_5, ?b83_6, ?b83_7, ?b83_8, ?b83_9, ?b83_10, ?b83_11, ?b83_12, ?b83_13, ?b83_14, ?b83_15] hr ?t83 ?o83 ?_
       case o83 =>
        apply oc0; intro A W hx hf
        exact Q0b 7 tu35 rfl Q37 (o1 s7 hx (r0 hf)) rfl
        apply oc0; intro A W hx hf
        exact Q02 2 tu66 (k := 2) rfl Q0m rfl (o1 s6 hx (r0 hf)) rfl
        apply oc0; intro A W hx hf
        exact Q0a tu3 rfl (q0 ?b83_1 A W 80 hf) rfl
        apply oc0; intro A W hx hf
        exact Q02 4 tu46 (k := 4) rfl Q0m rfl (o1 s3 hx (r0 hf)) rfl
        apply oc0; intro A W hx hf
        exact Q0a tu3 rfl (q0 ?b83_3 A W 82 hf) rfl
        apply oc0; intro A W hx hf
        exact Q02 4 tu46 (k := 4) rfl Q0m rfl (o1 s3 hx (r0 hf)) rfl
        apply oc0; intro A W hx hf
        exact Q0a tu3 rfl (q0 ?b83_5 A W 84 hf) rfl
        apply oc0; intro A W hx hf
        exact Q02 0 Q73 (k := 0) rfl Q0m rfl (o1 s5 hx (r0 hf)) rfl
        apply oc0; intro A W hx hf
        exact Q0a tu3 rfl (q0 ?b83_7 A W 86 hf) rfl
        apply oc0; intro A W hx hf
        exact Q0o (q0 ?b83_6 A W 85 hf) (q1 ?b83_8 A W 87 hf) (by show (-9223372036854775808 : Int) ≤ (Q0c l).1.at' + (pkN l).1.head ∧ (Q0c l).1.at' + (pkN l).1.head ≤ 9223372036854775807; omega)
        apply oc0; intro A W hx hf
        exact Q02 4 tu46 (k := 4) rfl Q0m rfl (o1 s3 hx (r0 hf)) rfl
        apply oc0; intro A W hx hf
        exact Q0a tu3 rfl (q0 ?b83_10 A W 89 hf) rfl
        apply oc0; intro A W hx hf
        exact Q02 1 Q73 (k := 1) rfl Q0m rfl (o1 s5 hx (r0 hf)) rfl
        apply oc0; intro A W hx hf
        exact Q0a tu3 rfl (q0 ?b83_12 A W 91 hf) rfl
        apply oc0; intro A W hx hf
        exact Q0o (q0 ?b83_11 A W 90 hf) (q1 ?b83_13 A W 92 hf) (by show (-9223372036854775808 : Int) ≤ (Q0c l).1.at' + (pkN l).1.total ∧ (Q0c l).1.at' + (pkN l).1.total ≤ 9223372036854775807; omega)
        apply oc0; intro A W hx hf
        exact Q1e [(1, (.tmp 79)), (2, (.tmp 81)), (3, (.tmp 83)), (4, (.tmp 88)), (5, (.tmp 93))] [(1, _), (2, _), (3, _), (4, _), (5, _)] Qrt rfl (PartsC.agg (q0 ?b83_0 A W 79 hf) (PartsC.one (q1 ?b83_2 A W 81 hf) rfl (PartsC.one (q2 ?b83_4 A W 83 hf) rfl (PartsC.one (q3 ?b83_9 A W 88 hf) rfl (PartsC.one (q4 ?b83_14 A W 93 hf) rfl (PartsC.nil)))))) (by simp [tupS, hs16, hd16])
        exact onn
       case t83 => exact inferInstance
       clear hr; intro a84 w84 x hr hd hs
       revert s2; refine kp1 hs rfl ?_; intro s2
       clear s3 s5 s6 s7
       have s94 := fa ?b83_15 a84 w84 94 (hd 15 94 rfl)
       replace e_w := e_w.trans x
       have e_w82 := x; clear hd hs x
       have z85 := PxS.lt (Q00 e_w82 s2)
       have l85 := (show (g2_2 = 0 ∨ w.heap.size < g2_2) ∧ True from ⟨by omega, trivial⟩)
       refine Q0k hr Qg2 (Q00 e_w82 s2) (Is.conv s94 (show _ = Value.agg (pktS (Q16 l)).flatten.toArray from by rw [hp]; simp [pktS, tupS, Q5b])) (by rw [hp]; exact Qj7 ⟨hs16, hd16⟩) (by exact Qel) rfl ?_; clear hr; intro a85 w85 hc hu hr hs
       have hb : Below w.heap.size w84 w85 := hc.below e_w.size l85.1
       revert s2; refine kp1 hs rfl ?_; intro s2
       clear s94
       replace s2 := hu _ _ _ (Q00 e_w82 s2)
       try simp only [List.set_cons_zero, List.set_cons_succ, lnkS] at s2
       replace e_w := e_w.below (Nat.le_refl _) hb
       clear e_w82
       clear hu hs hc hb
       refine wpList_nil ?_
       refine et ?_
       refine wp_ret ?_
       refine Qf1 hr s2 e_w ?_
       exact rfl
      ·
       have hp : Q16 l = give 6 := by unfold Q16; rw [if_neg (by rw [he]; decide)]; rw [if_neg (not_not_intro ht)]; rw [if_neg (by rw [hN]; decide)]; rw [if_neg (by rw [hfr]; decide)]; rw [if_neg (by rw [hca]; decide)]; rw [if_pos (by simpa using hk6)]
       refine Q4d s66 hk6 ?_
       exact Q31 hr (Q00 e_w47 s2) e_w (by omega) (fun _ => show PktV (give 6) = PktV (Q16 l) from by rw [hp])
     ·
      have hp : Q16 l = give 5 := by unfold Q16; rw [if_neg (by rw [he]; decide)]; rw [if_neg (not_not_intro ht)]; rw [if_neg (by rw [hN]; decide)]; rw [if_neg (by rw [hfr]; decide)]; rw [if_pos (by simpa using hk5)]
      refine Q4d s45 hk5 ?_
      exact Q31 hr (Q00 e_w16 s2) e_w (by omega) (fun _ => show PktV (give 5) = PktV (Q16 l) from by rw [hp])
    ·
     have hp : Q16 l = give 4 := by unfold Q16; rw [if_neg (by rw [he]; decide)]; rw [if_neg (not_not_intro ht)]; rw [if_neg (by rw [hN]; decide)]; rw [if_pos (by simpa using hk4)]
     refine Q4d s41 hk4 ?_
     exact Q31 hr (Q00 e_w16 s2) e_w (by omega) (fun _ => show PktV (give 4) = PktV (Q16 l) from by rw [hp])
   ·
    have hp : Q16 l = give 3 := by unfold Q16; rw [if_neg (by rw [he]; decide)]; rw [if_neg (not_not_intro ht)]; rw [if_pos (by simpa using hk3)]
    refine Q4d s37 hk3 ?_
    exact Q31 hr (Q00 e_w16 s2) e_w (by omega) (fun _ => show PktV (give 3) = PktV (Q16 l) from by rw [hp])
  ·
   have hp : Q16 l = give 2 := by unfold Q16; rw [if_neg (by rw [he]; decide)]; rw [if_pos (by simpa using hk2)]
   refine Q4d s24 hk2 ?_
   exact Q31 hr (Q00 e_w8 s2) e_w (by omega) (fun _ => show PktV (give 2) = PktV (Q16 l) from by rw [hp])
 ·
  have hp : Q16 l = give 1 := by unfold Q16; rw [if_pos (by simpa using hk1)]
  refine Q4d s15 hk1 ?_
  exact Q31 hr (Q00 e_w8 s2) e_w (by omega) (fun _ => show PktV (give 1) = PktV (Q16 l) from by rw [hp])

end Go.Proofs.Ytlmdboaghojgiaa
