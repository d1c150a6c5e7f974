import Derived.Test.YtlmdboaghojgiaaA12
import Derived.Test.YtlmdboaghojgiaaE11Q
namespace Go.Proofs.Ytlmdboaghojgiaa
open Go.RowKit
set_option linter.unusedVariables false
set_option linter.unusedSimpArgs false
set_option maxRecDepth 4000
set_option maxHeartbeats 2000000 in
theorem Qdg {x0 x1 x2 x3 : Value} {w : World} {l m : List UInt8} {Sa : Adr} {n : Int} (h0 : (Bs l) x0 w) (h1 : (Is (AdrV Sa)) x1 w) (h2 : (Is (.int .i64 n)) x2 w) (h3 : (Bs m) x3 w) (hA : Sa.b.length = 16) :
    Calls Try.prog 4 #[x0, x1, x2, x3] w (Ret (Is (.bool true)) w) := by
 have hlen := Bs.len_le h0
 have hlm := Bs.len_le h3
 refine enter Try.func4 rfl Try.ntmps4 (k := 4) rfl (by decide) (fun a0 hr hargs => ?_)
 have s0 := sarg h0 (hargs 0 (by decide))
 have s1 := sarg h1 (hargs 1 (by decide))
 have s2 := sarg h2 (hargs 2 (by decide))
 have s3 := sarg h3 (hargs 3 (by decide))
 clear hargs
 refine sq ?_
 refine Q05 124 [[(1, none)], []] [?b1_0, ?b1_1] Q0a hr ?t1 ?o1 ?_
 case o1 =>
  apply oc0; intro A W hx hf
  exact Q2c [[.bool Sa.six], Sa.b.map Q12] [1, 16] (Is.conv (o1 s1 hx (r0 hf)) (Q1d Sa).symm) (by simp [*]) hx.size
  apply oc0; intro A W hx hf
  exact Q07
  exact onn
 case t1 => exact inferInstance
 clear hr; intro a2 w2 x hr hd hs
 revert s3; revert s2; revert s0; refine kp3 hs rfl ?_; intro s0 s2 s3
 clear s1
 have s5 := fa ?b1_0 a2 w2 5 (hd 0 5 rfl)
 obtain ⟨g2_5, q2_5⟩ := PxN.at s5; clear s5; have n2_5 := PxS.lt q2_5
 have s5 := q2_5; clear q2_5
 have e_w := x; clear hd hs x
 refine es ?_
 refine sq ?_
 refine Q05 124 [[], [(17, some 0)], [(18, some 1)], [(0, none), (19, some 2)], [(20, some 3), (19, some 2)], [(21, some 4), (19, some 2)], [(19, some 2), (22, some 5)], [(23, some 6)], [(3, none), (24, some 7)], [(25, some 8), (24, some 7)], [(26, some 9), (24, some 7)], [(24, some 7), (27, some 10)]] [?b3_0, ?b3_1, ?b3_1, ?b3_3, ?b3_4, ?b3_5, ?b3_6, ?b3_6, ?b3_8, ?b3_9, ?b3_10, ?b3_11] Q0a hr ?t3 ?o3 ?_
 case o3 =>
  apply oc0; intro A W hx hf
  exact Q6i Qi0 (Q69 )
  apply oc0; intro A W hx hf
  exact Q39 (q0 ?b3_0 A W 17 hf)
  apply oc0; intro A W hx hf
  exact Q0i (q0 ?b3_1 A W 18 hf)
  refine ocg 19 ?_ (fun A W hx hf => ?_) ?_
  rfl
  exact gd_f (q1 ?b3_1 A W 19 hf) (fun hc => Q01 (a0 := a2) (r0 hf))
  refine ocg 19 ?_ (fun A W hx hf => ?_) ?_
  rfl
  exact gd_f (q1 ?b3_1 A W 19 hf) (fun hc => Q0x tu22 (p2 s0 e_w hx (G.get (q0 ?b3_3 A W 20 hf) hc)))
  refine ocg 19 ?_ (fun A W hx hf => ?_) ?_
  rfl
  exact gd_f (q1 ?b3_1 A W 19 hf) (fun hc => Q3z (G.get (q0 ?b3_4 A W 21 hf) hc) (ec A (.int .i64 3000)))
  apply oc0; intro A W hx hf
  exact Q36 (q0 ?b3_1 A W 19 hf) (q1 ?b3_5 A W 22 hf)
  apply oc0; intro A W hx hf
  exact Q0i (q0 ?b3_6 A W 23 hf)
  refine ocg 24 ?_ (fun A W hx hf => ?_) ?_
  rfl
  exact gd_f (q1 ?b3_6 A W 24 hf) (fun hc => Q01 (a0 := a2) (r0 hf))
  refine ocg 24 ?_ (fun A W hx hf => ?_) ?_
  rfl
  exact gd_f (q1 ?b3_6 A W 24 hf) (fun hc => Q0x tu22 (p2 s3 e_w hx (G.get (q0 ?b3_8 A W 25 hf) hc)))
  refine ocg 24 ?_ (fun A W hx hf => ?_) ?_
  rfl
  exact gd_f (q1 ?b3_6 A W 24 hf) (fun hc => Q3z (G.get (q0 ?b3_9 A W 26 hf) hc) (ec A (.int .i64 300)))
  apply oc0; intro A W hx hf
  exact Q36 (q0 ?b3_6 A W 24 hf) (q1 ?b3_10 A W 27 hf)
  exact onn
 case t3 => exact inferInstance
 clear hr; intro a4 w4 x hr hd hs
 revert s5; revert s3; revert s2; revert s0; refine kp4 hs rfl ?_; intro s0 s2 s3 s5
 have s28 := fa ?b3_11 a4 w4 28 (hd 11 28 rfl)
 replace e_w := e_w.trans x
 have e_w2 := x; clear hd hs x
 refine et ?_
 refine wp_cond_split (show _ = _ from s28) (fun hg => ?_) (fun hg => ?_)
 ·
  skip
  refine sq ?_
  refine Q05 124 [[], [(29, some 0)]] [?b6_0, ?b6_0] Q0a hr ?t6 ?o6 ?_
  case o6 =>
   apply oc0; intro A W hx hf
   exact Q6i Qi0 (Q69 )
   apply oc0; intro A W hx hf
   exact Q03 (q0 ?b6_0 A W 29 hf)
   exact onn
  case t6 => exact inferInstance
  clear hr; intro a7 w7 x hr hd hs
  clear s0 s2 s3 s5 s28
  have s8 := fa ?b6_0 a7 w7 8 (hd 1 8 rfl)
  replace e_w := e_w.trans x
  clear e_w2; clear hd hs x
  refine et ?_
  refine wp_ret ?_
  refine Q0f ?_
  refine Q10 Try.results4 hr e_w ?_
  first | with_reducible exact s8 | (have h9 := rd1; exact Is.bool s8 (by rw [ln1, ln2, fe3, fe]; simp)) | exact Is.bool s8 (by rw [hno]; rfl)
 have hg9 : l.length ≤ 3000 ∧ m.length ≤ 300 := by simp at hg; omega
 refine wp_skip ?_
 refine es ?_
 refine Q04 (l := [_, _, _]) (rest := [_]) 124 [[(0, none)], [(30, some 0)], []] [?b8_0, ?b8_1, ?b8_2] hr ?t8 ?o8 ?_
 case o8 =>
  apply oc0; intro A W hx hf
  exact Q01 (a0 := a4) (r0 hf)
  apply oc0; intro A W hx hf
  exact Q1c Qby (Q6a (p2 s0 e_w hx (q0 ?b8_0 A W 30 hf)) (by omega))
  apply oc0; intro A W hx hf
  exact Q0u (pktF (give 0)) [1, 1, 16, 1, 16, 1, 1, 1, 1, 1, 1, 1] Q60 (by rfl) (by rfl) hx.size
  exact onn
 case t8 => exact inferInstance
 clear hr; intro a9 w9 x hr hd hs
 have z_w_w4 := e_w.size
 have z_w2_w4 := e_w2.size
 have l9_5 := PxS.lt (Q00 e_w2 s5)
 revert s5; revert s3; revert s2; revert s0; refine kp4 hs rfl ?_; intro s0 s2 s3 s5
 clear s28
 have s31 := fa ?b8_1 a9 w9 31 (hd 1 31 rfl)
 have s9 := fa ?b8_2 a9 w9 9 (hd 2 9 rfl)
 obtain ⟨g9_9, q9_9⟩ := PxN.at s9; clear s9; have n9_9 := PxS.lt q9_9
 replace q9_9 := PxS.mono q9_9 e_w.size
 have s9 := q9_9; clear q9_9
 replace e_w := e_w.trans x
 replace e_w2 := e_w2.trans x; clear hd hs x
 have z10 := PxS.lt s9
 have l10 := (show (g9_9 = 0 ∨ w.heap.size < g9_9) ∧ True from ⟨by omega, trivial⟩)
 have l10_5 := PxS.lt (Q00 e_w2 s5)
 refine Q15 (pktF (Q0d l)) hr Q2g s9 (Is.conv s31 (show _ = Value.agg (pktF (Q0d l)).flatten.toArray from (Q8h _).symm)) (by exact Q45 (Q32 _)) (by exact Q7h) rfl ?_; clear hr; intro a10 w10 hc hu hr hs
 have hb : Below w.heap.size w9 w10 := hc.below e_w.size l10.1
 revert s9; revert s5; revert s3; revert s2; revert s0; refine kp5 hs rfl ?_; intro s0 s2 s3 s5 s9
 clear s31
 replace s5 := PxS.other (Q00 e_w2 s5) hc (by omega)
 replace s9 := hu _ _ _ s9
 try simp only [List.set_cons_zero, List.set_cons_succ, pktF] at s9
 replace e_w := e_w.below (Nat.le_refl _) hb
 clear e_w2
 clear hu hs hc hb
 refine wpList_nil ?_
 refine es ?_
 refine Q3i (fun W => Below w.heap.size w W ∧ BlkS g2_5 [1, 16] _ W) Q0a (fun w' x => ⟨(e_w.trans x), PxS.blkS (Q00 x s5)⟩) (fun w11 x _ => ?_)
 show wpAnyH _ _ _ _ _ 13 _ _ _
 replace e_w := e_w.trans x
 have e_w10 := x
 clear x
 refine Q0s (i := 1) hr rfl (by decide) (by kernel_rfl) (fun _ _ _ _ h => h) (yh (Q1j (Q0i (show AtW w _ _ _ from s0)) (Q2j))) ⟨e_w, PxS.blkS (Q00 e_w10 s5)⟩ ?_; clear hr; intro a12 hr hd hs
 revert s9; revert s5; revert s3; revert s2; revert s0; refine kp5 hs rfl ?_; intro s0 s2 s3 s5 s9
 have s34 := AtW.base hd
 clear hd hs
 refine Q0s (i := 3) hr rfl (by decide) (by kernel_rfl) (fun _ _ _ _ h => h) (yh (Q1j (Q0i (show AtW w _ _ _ from s3)) (Q2j))) ⟨e_w, PxS.blkS (Q00 e_w10 s5)⟩ ?_; clear hr; intro a13 hr hd hs
 revert s34; revert s9; revert s5; revert s2; revert s0; refine kp5 hs rfl ?_; intro s0 s2 s5 s9 s34
 clear s3
 have s36 := AtW.base hd
 clear hd hs
 refine Q0s (i := 5) hr rfl (by decide) (by kernel_rfl) (fun _ _ _ _ h => h) (Qbz 2 tu25 rfl Q0v (Q00 e_w10 s5) (fun W hW => hW.2) rfl) ⟨e_w, PxS.blkS (Q00 e_w10 s5)⟩ ?_; clear hr; intro a14 hr hd hs
 revert s36; revert s34; revert s9; revert s5; revert s2; revert s0; refine kp6 hs rfl ?_; intro s0 s2 s5 s9 s34 s36
 have s38 := hd
 clear hd hs
 refine Q0s (i := 6) hr rfl (by decide) (by kernel_rfl) (fun _ _ _ _ h => h) (yh (Q1j (Q0i (Q00 e_w s2)) (Q2j))) ⟨e_w, PxS.blkS (Q00 e_w10 s5)⟩ ?_; clear hr; intro a15 hr hd hs
 revert s36; revert s34; revert s9; revert s5; revert s2; revert s0; refine kp6 hs rfl ?_; intro s0 s2 s5 s9 s34 s36
 revert s38; refine kp1 hs rfl ?_; intro s38
 have s39 := hd
 clear hd hs
 refine Q1s (i := 0) (by kernel_rfl) rfl ?_
 ·
  have l16_5 := PxS.lt (Q00 e_w10 s5)
  have l16_9 := PxS.lt (Q00 e_w10 s9)
  refine Q13 hr (Q3g [] [] tu22 Q0t Q4f rfl rfl (by decide) (Nat.le_refl _) (PartsOk.nil)) inferInstance ?_; clear hr; intro a16 w16 x hr hd hs
  revert s36; revert s34; revert s9; revert s5; revert s2; revert s0; refine kp6 hs rfl ?_; intro s0 s2 s5 s9 s34 s36
  revert s39; revert s38; refine kp2 hs rfl ?_; intro s38 s39
  have s33 := hd 33 rfl (by decide)
  obtain ⟨g16_33, q16_33⟩ := OwnB.at s33; clear s33; have n16_33 := OwnBA.lt q16_33
  replace q16_33 := OwnBA.mono q16_33 e_w.size
  have s33 := q16_33; clear q16_33
  replace e_w := e_w.trans x
  replace e_w10 := e_w10.trans x
  have e_w11 := x; clear hd hs x
  refine Q1n ⟨e_w, PxS.blkS (Q00 e_w10 s5)⟩ ?_
  refine Q1s (i := 2) (by kernel_rfl) rfl ?_
  ·
   have l17 := OwnBA.lt s33
   have l17_5 := PxS.lt (Q00 e_w10 s5)
   have l17_9 := PxS.lt (Q00 e_w10 s9)
   refine Q14 hr (by decide) tu22 Q3s rfl s33 (Q00 e_w s34) e_w.size (by first | (simp; done) | (simp; omega)) ?_; clear hr; intro g17 a17 w17 hg17 hc hr hd hs
   have hb := hc.below e_w.size l17.1
   revert s38; revert s36; revert s9; revert s5; revert s2; revert s0; refine kp6 hs rfl ?_; intro s0 s2 s5 s9 s36 s38
   revert s39; refine kp1 hs rfl ?_; intro s39
   clear s34 s33
   replace s5 := PxS.other (Q00 e_w10 s5) hc (by omega)
   replace s9 := PxS.other (Q00 e_w10 s9) hc (by omega)
   have s35 := hd
   replace e_w := e_w.below (Nat.le_refl _) hb
   clear e_w10
   clear e_w11
   replace s38 := anyw (w2 := w17) s38
   replace s39 := anyw (w2 := w17) s39
   clear hd hs hb hc
   refine Q1n ⟨e_w, PxS.blkS s5⟩ ?_
   refine Q1s (i := 4) (by kernel_rfl) rfl ?_
   ·
    have l18 := OwnBA.lt s35
    have l18_5 := PxS.lt s5
    have l18_9 := PxS.lt s9
    refine Q14 hr (by decide) tu22 Q3s rfl s35 (Q00 e_w s36) e_w.size (by first | (simp; done) | (simp; omega)) ?_; clear hr; intro g18 a18 w18 hg18 hc hr hd hs
    have hb := hc.below e_w.size l18.1
    revert s39; revert s38; revert s9; revert s5; revert s2; revert s0; refine kp6 hs rfl ?_; intro s0 s2 s5 s9 s38 s39
    clear s36 s35
    replace s5 := PxS.other s5 hc (by omega)
    replace s9 := PxS.other s9 hc (by omega)
    have s37 := hd
    replace e_w := e_w.below (Nat.le_refl _) hb
    replace s38 := anyw (w2 := w18) s38
    replace s39 := anyw (w2 := w18) s39
    clear hd hs hb hc
    refine Q1n ⟨e_w, PxS.blkS s5⟩ ?_
    refine Q1s (i := 7) (by kernel_rfl) rfl ?_
    ·
     have z_w_w18 := e_w.size
     refine Q13 hr (Q27 Q7p (Qbl (OwnBA.bs s37) (Is.conv s38 (Q1d Sa)) s39 (by exact hA) (by simp; omega) (Nat.le_refl _))) inferInstance ?_; clear hr; intro a19 w19 x hr hd hs
     revert s9; revert s5; revert s2; revert s0; refine kp4 hs rfl ?_; intro s0 s2 s5 s9
     clear s37 s38 s39
     have s40 := hd 40 rfl (by decide)
     replace e_w := e_w.trans x
     have e_w18 := x; clear hd hs x
     refine Q1n ⟨e_w, PxS.blkS (Q00 e_w18 s5)⟩ ?_
     refine Q0s (i := 8) hr rfl (by decide) (by kernel_rfl) (fun _ _ _ _ h => h) (yh (Q1j (Q0i s40) (Q2j))) ⟨e_w, PxS.blkS (Q00 e_w18 s5)⟩ ?_; clear hr; intro a20 hr hd hs
     revert s9; revert s5; revert s2; revert s0; refine kp4 hs rfl ?_; intro s0 s2 s5 s9
     clear s40
     have s32 := hd
     clear hd hs
     refine Q0s (i := 9) hr rfl (by decide) (by kernel_rfl) (fun _ _ _ _ h => h) (yh (Q1j (Q1z s32) (Q2v rfl s32))) ⟨e_w, PxS.blkS (Q00 e_w18 s5)⟩ ?_; clear hr; intro a21 hr hd hs
     revert s32; revert s9; revert s5; revert s2; revert s0; refine kp5 hs rfl ?_; intro s0 s2 s5 s9 s32
     have s41 := hd
     clear hd hs
     refine Q0s (i := 10) hr rfl (by decide) (by kernel_rfl) (fun _ _ _ _ h => h) (yh (Q1j (Q20 s32) (Q2v rfl s32))) ⟨e_w, PxS.blkS (Q00 e_w18 s5)⟩ ?_; clear hr; intro a22 hr hd hs
     revert s41; revert s9; revert s5; revert s2; revert s0; refine kp5 hs rfl ?_; intro s0 s2 s5 s9 s41
     clear s32
     have s42 := hd
     clear hd hs
     refine Q0s (i := 11) hr rfl (by decide) (by kernel_rfl) (fun _ _ _ _ h => h) (yh (Q1j (Q03 s41) (Q2r))) ⟨e_w, PxS.blkS (Q00 e_w18 s5)⟩ ?_; clear hr; intro a23 hr hd hs
     revert s42; revert s9; revert s5; revert s2; revert s0; refine kp5 hs rfl ?_; intro s0 s2 s5 s9 s42
     clear s41
     have s10 := hd
     clear hd hs
     refine Q0s (i := 12) hr rfl (by decide) (by kernel_rfl) (fun _ _ _ _ h => h) (yh (Q1j (Q03 s42) (Q2r))) ⟨e_w, PxS.blkS (Q00 e_w18 s5)⟩ ?_; clear hr; intro a24 hr hd hs
     revert s10; revert s9; revert s5; revert s2; revert s0; refine kp5 hs rfl ?_; intro s0 s2 s5 s9 s10
     clear s42
     have s11 := hd
     clear hd hs
     refine Q3a (by kernel_rfl) ?_
     have lb25_5 := PxS.lt s5
     have lb25_9 := PxS.lt s9
     obtain ⟨g25_10, q25_10⟩ := OwnB.at s10; clear s10; have n25_10 := OwnBA.lt q25_10; replace q25_10 := OwnBA.mono q25_10 z_w_w18; have s10 := q25_10; clear q25_10
     replace s10 := OwnBA.cast s10 (show _ = (natR (l ++ m) Sa n true).1 from by rw [List.nil_append])
     replace s11 := Is.int s11 (show _ = (natR (l ++ m) Sa n true).2 from by rw [List.nil_append])
     refine es ?_
     refine Q05 124 [[(0, none)], [(5, none)], [(2, none)], [(44, some 0), (45, some 1), (46, some 2)], [(47, some 3)], [(43, some 4)], [(43, some 4)], [(48, some 5)], [(49, some 6)]] [?b26_0, ?b26_1, ?b26_2, ?b26_3, ?b26_3, ?b26_5, ?b26_6, ?b26_5, ?b26_6] Q0a hr ?t26 ?o26 ?_
     case o26 =>
      apply oc0; intro A W hx hf
      exact Q01 (a0 := a24) (r0 hf)
      apply oc0; intro A W hx hf
      exact Q0c 2 tu25 rfl Q0v (o2 s5 e_w18 hx (r0 hf)) rfl
      apply oc0; intro A W hx hf
      exact Q01 (a0 := a24) (r0 hf)
      apply oc0; intro A W hx hf
      exact Q27 Qja (Qf7 (p2 s0 e_w hx (q0 ?b26_0 A W 44 hf)) (Is.conv (q1 ?b26_1 A W 45 hf) (Q1d Sa)) (p2 s2 e_w hx (q2 ?b26_2 A W 46 hf)) (by exact hA) (by omega) hx.size)
      apply oc0; intro A W hx hf
      exact Q0i (q0 ?b26_3 A W 47 hf)
      apply oc0; intro A W hx hf
      exact Q1z (q0 ?b26_3 A W 43 hf)
      apply oc0; intro A W hx hf
      exact Q20 (q0 ?b26_3 A W 43 hf)
      apply oc0; intro A W hx hf
      exact Q03 (q0 ?b26_5 A W 48 hf)
      apply oc0; intro A W hx hf
      exact Q03 (q0 ?b26_6 A W 49 hf)
      exact onn
     case t26 => exact inferInstance
     clear hr; intro a27 w27 x hr hd hs
     have z_w_w19 := e_w.size
     have z_w18_w19 := e_w18.size
     have l27_5 := PxS.lt (Q00 e_w18 s5)
     have l27_9 := PxS.lt (Q00 e_w18 s9)
     have l27_10 := OwnBA.lt s10
     revert s11; revert s10; revert s9; revert s5; revert s2; refine kp5 hs rfl ?_; intro s2 s5 s9 s10 s11
     clear s0
     have s12 := fa ?b26_5 a27 w27 12 (hd 7 12 rfl)
     have s13 := fa ?b26_6 a27 w27 13 (hd 8 13 rfl)
     obtain ⟨g27_12, q27_12⟩ := OwnB.at s12; clear s12; have n27_12 := OwnBA.lt q27_12
     replace q27_12 := OwnBA.mono q27_12 e_w.size
     have s12 := q27_12; clear q27_12
     replace e_w := e_w.trans x
     replace e_w18 := e_w18.trans x
     have e_w19 := x; clear hd hs x
     refine es ?_
     refine sq ?_
     refine Q05 124 [[(9, none)], [(50, some 0)], [(51, some 1)], [(52, some 2)], [(9, none), (53, some 3)], [(54, some 4), (53, some 3)], [(55, some 5), (53, some 3)], [(56, some 6), (53, some 3)], [(5, none), (53, some 3)], [(57, some 7), (58, some 8), (53, some 3)], [(59, some 9), (53, some 3)], [(53, some 3), (60, some 10)], [(61, some 11)], [(2, none), (62, some 12)], [(63, some 13), (62, some 12)], [(62, some 12), (64, some 14)], [(65, some 15)], [(2, none), (66, some 16)], [(67, some 17), (66, some 16)], [(66, some 16), (68, some 18)]] [?b28_0, ?b28_1, ?b28_2, ?b28_2, ?b28_4, ?b28_5, ?b28_6, ?b28_7, ?b28_8, ?b28_9, ?b28_10, ?b28_11, ?b28_11, ?b28_13, ?b28_14, ?b28_15, ?b28_15, ?b28_17, ?b28_18, ?b28_19] Q0a hr ?t28 ?o28 ?_
     case o28 =>
      apply oc0; intro A W hx hf
      exact Q02 0 tu37 (k := 0) rfl Q0l rfl (o2 s9 e_w18 hx (r0 hf)) rfl
      apply oc0; intro A W hx hf
      exact Q09 tu3 rfl (q0 ?b28_0 A W 50 hf) rfl
      apply oc0; intro A W hx hf
      exact Q2e (q0 ?b28_1 A W 51 hf) (ec A (.int .i64 0))
      apply oc0; intro A W hx hf
      exact Q0i (q0 ?b28_2 A W 52 hf)
      refine ocg 53 ?_ (fun A W hx hf => ?_) ?_
      rfl
      exact gd_f (q1 ?b28_2 A W 53 hf) (fun hc => Q02 1 tu37 (k := 1) rfl Q1y rfl (o2 s9 e_w18 hx (r0 hf)) rfl)
      refine ocg 53 ?_ (fun A W hx hf => ?_) ?_
      rfl
      exact gd_f (q1 ?b28_2 A W 53 hf) (fun hc => Q02 1 tu35 (k := 0) rfl Q0v rfl (G.get (q0 ?b28_4 A W 54 hf) hc) rfl)
      refine ocg 53 ?_ (fun A W hx hf => ?_) ?_
      rfl
      exact gd_f (q1 ?b28_2 A W 53 hf) (fun hc => Q02 1 tu25 (k := 0) rfl Q4g rfl (G.get (q0 ?b28_5 A W 55 hf) hc) rfl)
      refine ocg 53 ?_ (fun A W hx hf => ?_) ?_
      rfl
      exact gd_f (q1 ?b28_2 A W 53 hf) (fun hc => Q09 tu4 rfl (G.get (q0 ?b28_6 A W 56 hf) hc) rfl)
      refine ocg 53 ?_ (fun A W hx hf => ?_) ?_
      rfl
      exact gd_f (q1 ?b28_2 A W 53 hf) (fun hc => Q0c 2 tu25 rfl Q0v (o2 s5 e_w18 hx (r0 hf)) rfl)
      refine ocg 53 ?_ (fun A W hx hf => ?_) ?_
      rfl
      exact gd_f (q2 ?b28_2 A W 53 hf) (fun hc => Q0w Qkb (Qgb (G.get (q0 ?b28_7 A W 57 hf) hc) (Is.conv (G.get (q1 ?b28_8 A W 58 hf) hc) (Q1d Sa)) (by exact hA)))
      refine ocg 53 ?_ (fun A W hx hf => ?_) ?_
      rfl
      exact gd_f (q1 ?b28_2 A W 53 hf) (fun hc => Q39 (G.get (q0 ?b28_9 A W 59 hf) hc))
      apply oc0; intro A W hx hf
      exact Q36 (q0 ?b28_2 A W 53 hf) (q1 ?b28_10 A W 60 hf)
      apply oc0; intro A W hx hf
      exact Q0i (q0 ?b28_11 A W 61 hf)
      refine ocg 62 ?_ (fun A W hx hf => ?_) ?_
      rfl
      exact gd_f (q1 ?b28_11 A W 62 hf) (fun hc => Q01 (a0 := a27) (r0 hf))
      refine ocg 62 ?_ (fun A W hx hf => ?_) ?_
      rfl
      exact gd_f (q1 ?b28_11 A W 62 hf) (fun hc => Q1g (p2 s2 e_w hx (G.get (q0 ?b28_13 A W 63 hf) hc)) (ec A (.int .i64 0)))
      apply oc0; intro A W hx hf
      exact Q36 (q0 ?b28_11 A W 62 hf) (q1 ?b28_14 A W 64 hf)
      apply oc0; intro A W hx hf
      exact Q0i (q0 ?b28_15 A W 65 hf)
      refine ocg 66 ?_ (fun A W hx hf => ?_) ?_
      rfl
      exact gd_f (q1 ?b28_15 A W 66 hf) (fun hc => Q01 (a0 := a27) (r0 hf))
      refine ocg 66 ?_ (fun A W hx hf => ?_) ?_
      rfl
      exact gd_f (q1 ?b28_15 A W 66 hf) (fun hc => Q3z (p2 s2 e_w hx (G.get (q0 ?b28_17 A W 67 hf) hc)) (ec A (.int .i64 65535)))
      apply oc0; intro A W hx hf
      exact Q36 (q0 ?b28_15 A W 66 hf) (q1 ?b28_18 A W 68 hf)
      exact onn
     case t28 => exact inferInstance
     clear hr; intro a29 w29 x hr hd hs
     revert s13; revert s11; revert s10; revert s9; revert s5; revert s2; refine kp6 hs rfl ?_; intro s2 s5 s9 s10 s11 s13
     revert s12; refine kp1 hs rfl ?_; intro s12
     have s69 := fa ?b28_19 a29 w29 69 (hd 19 69 rfl)
     replace e_w := e_w.trans x
     replace e_w18 := e_w18.trans x
     replace e_w19 := e_w19.trans x
     have e_w27 := x; clear hd hs x
     refine et ?_
     refine wp_cond_split (show _ = _ from s69) (fun hc9 => ?_) (fun hc9 => ?_)
     ·
      have hno := (Qjr (dst := false) (Qnx hc9)).1
      refine sq ?_
      refine Q05 124 [[(13, none)], [(70, some 0)], [(71, some 1)], [(12, none), (72, some 2)], [(73, some 3), (72, some 2)], [(74, some 4), (72, some 2)], [(72, some 2), (75, some 5)], [(76, some 6)]] [?b31_0, ?b31_1, ?b31_1, ?b31_3, ?b31_4, ?b31_5, ?b31_6, ?b31_6] Q0a hr ?t31 ?o31 ?_
      case o31 =>
       apply oc0; intro A W hx hf
       exact Q01 (a0 := a29) (r0 hf)
       apply oc0; intro A W hx hf
       exact Q1a (p2 s13 e_w27 hx (q0 ?b31_0 A W 70 hf)) (ec A (.int .i64 1))
       apply oc0; intro A W hx hf
       exact Q0i (q0 ?b31_1 A W 71 hf)
       refine ocg 72 ?_ (fun A W hx hf => ?_) ?_
       rfl
       exact gd_t (q1 ?b31_1 A W 72 hf) (fun hc => Q01 (a0 := a29) (r0 hf))
       refine ocg 72 ?_ (fun A W hx hf => ?_) ?_
       rfl
       exact gd_t (q1 ?b31_1 A W 72 hf) (fun hc => Q0x tu22 (OwnBA.bs (p2 s12 e_w27 hx (G.get (q0 ?b31_3 A W 73 hf) hc))))
       refine ocg 72 ?_ (fun A W hx hf => ?_) ?_
       rfl
       exact gd_t (q1 ?b31_1 A W 72 hf) (fun hc => Q1a (G.get (q0 ?b31_4 A W 74 hf) hc) (ec A (.int .i64 0)))
       apply oc0; intro A W hx hf
       exact Q1x (q0 ?b31_1 A W 72 hf) (q1 ?b31_5 A W 75 hf)
       apply oc0; intro A W hx hf
       exact Q03 (q0 ?b31_6 A W 76 hf)
       exact onn
      case t31 => exact inferInstance
      clear hr; intro a32 w32 x hr hd hs
      clear s2 s5 s9 s10 s11 s13 s12 s69
      have s8 := fa ?b31_6 a32 w32 8 (hd 7 8 rfl)
      replace e_w := e_w.trans x
      clear e_w18
      clear e_w19
      clear e_w27; clear hd hs x
      refine et ?_
      refine wp_ret ?_
      refine Q0f ?_
      refine Q10 Try.results4 hr e_w ?_
      first | with_reducible exact s8 | (have h9 := rd1; exact Is.bool s8 (by rw [ln1, ln2, fe3, fe]; simp)) | exact Is.bool s8 (by rw [hno]; rfl)
     have hok := Qny hc9
     have P := Qaj hok
     have b := Q7q P.fine
     have hbl := b.len
     have h14 := b.a14
     obtain ⟨fk, fn, fs, fe, ft⟩ := Q6b P.fine
     have hok2 := Qni (m := m) hok
     have P2 := Qaj hok2
     have b2 := Q7q P2.fine
     have hy1 := (Q5t (dst := true) hok2).1
     have hy2 := (Q5t (dst := false) hok).1
     have rd1 := Qco (dst := true) P2 b2 hA
     have rd2 := Qco (dst := false) P b hA
     have fe2 := (Q6b P2.fine).2.2.2.1
     rw [Qhl P.fine] at rd1 fe2
     have ln1 := Q57 (n := n) (dst := true) b2 hA
     have ln2 := Q57 (n := n) (dst := false) b hA
     have fe3 : endP (l ++ m) = endP l := by omega
     replace s10 := OwnBA.cast s10 (show _ = natX (l ++ m) Sa n true from by rw [hy1])
     replace s11 := Is.int s11 (show _ = (0 : Int) from by rw [hy1])
     replace s12 := OwnBA.cast s12 (show _ = natX l Sa n false from by rw [hy2])
     replace s13 := Is.int s13 (show _ = (0 : Int) from by rw [hy2])
     refine wp_skip ?_
     refine es ?_
     refine Q04 (l := [_, _, _]) (rest := [_]) 124 [[(10, none)], [(77, some 0)], []] [?b33_0, ?b33_1, ?b33_2] hr ?t33 ?o33 ?_
     case o33 =>
      apply oc0; intro A W hx hf
      exact Q01 (a0 := a29) (r0 hf)
      apply oc0; intro A W hx hf
      exact Q1c Qby (Q6a (OwnBA.bs (p2 s10 e_w19 hx (q0 ?b33_0 A W 77 hf))) (by omega))
      apply oc0; intro A W hx hf
      exact Q0u [(pktS (give 0)).flatten] [42] Q60 (by rfl) (by rfl) hx.size
      exact onn
     case t33 => exact inferInstance
     clear hr; intro a34 w34 x hr hd hs
     have z_w_w29 := e_w.size
     have z_w18_w29 := e_w18.size
     have z_w19_w29 := e_w19.size
     have z_w27_w29 := e_w27.size
     have l34_5 := PxS.lt (Q00 e_w18 s5)
     have l34_9 := PxS.lt (Q00 e_w18 s9)
     have l34_10 := OwnBA.lt (Q00 e_w19 s10)
     have l34_12 := OwnBA.lt (Q00 e_w27 s12)
     revert s13; revert s11; revert s10; revert s9; revert s5; revert s2; refine kp6 hs rfl ?_; intro s2 s5 s9 s10 s11 s13
     revert s12; refine kp1 hs rfl ?_; intro s12
     clear s69
     have s78 := fa ?b33_1 a34 w34 78 (hd 1 78 rfl)
     have s14 := fa ?b33_2 a34 w34 14 (hd 2 14 rfl)
     obtain ⟨g34_14, q34_14⟩ := PxN.at s14; clear s14; have n34_14 := PxS.lt q34_14
     replace q34_14 := PxS.mono q34_14 e_w.size
     have s14 := q34_14; clear q34_14
     replace e_w := e_w.trans x
     replace e_w18 := e_w18.trans x
     replace e_w19 := e_w19.trans x
     replace e_w27 := e_w27.trans x; clear hd hs x
     have z35 := PxS.lt s14
     have l35 := (show (g34_14 = 0 ∨ w.heap.size < g34_14) ∧ True from ⟨by omega, trivial⟩)
     have l35_5 := PxS.lt (Q00 e_w18 s5)
     have l35_9 := PxS.lt (Q00 e_w18 s9)
     have l35_10 := OwnBA.lt (Q00 e_w19 s10)
     have l35_12 := OwnBA.lt (Q00 e_w27 s12)
     refine Q0e hr Q2g s14 (Is.conv s78 (show _ = PktV { Q0d l with tup := natT (Q0d l).tup Sa n true } from congrArg PktV rd1)) (by exact Q53 (Qdb hA)) (by exact Q4i) rfl ?_; clear hr; intro a35 w35 hc hu hr hs
     have hb : Below w.heap.size w34 w35 := hc.below e_w.size l35.1
     revert s13; revert s11; revert s10; revert s9; revert s5; revert s2; refine kp6 hs rfl ?_; intro s2 s5 s9 s10 s11 s13
     revert s14; revert s12; refine kp2 hs rfl ?_; intro s12 s14
     clear s78
     replace s5 := PxS.other (Q00 e_w18 s5) hc (by omega)
     replace s9 := PxS.other (Q00 e_w18 s9) hc (by omega)
     replace s10 := OwnBA.other (Q00 e_w19 s10) hc (by omega)
     replace s12 := OwnBA.other (Q00 e_w27 s12) hc (by omega)
     replace s14 := hu _ _ _ s14
     try simp only [List.set_cons_zero, List.set_cons_succ, pktF] at s14
     replace e_w := e_w.below (Nat.le_refl _) hb
     clear e_w18
     clear e_w19
     clear e_w27
     replace s11 := anyw (w2 := w35) s11
     replace s13 := anyw (w2 := w35) s13
     clear hu hs hc hb
     refine wpList_nil ?_
     refine es ?_
     refine Q04 (l := [_, _, _]) (rest := [_]) 124 [[(12, none)], [(79, some 0)], []] [?b36_0, ?b36_1, ?b36_2] hr ?t36 ?o36 ?_
     case o36 =>
      apply oc0; intro A W hx hf
      exact Q01 (a0 := a35) (r0 hf)
      apply oc0; intro A W hx hf
      exact Q1c Qby (Q6a (OwnBA.bs (p1 s12 hx (q0 ?b36_0 A W 79 hf))) (by omega))
      apply oc0; intro A W hx hf
      exact Q0u [(pktS (give 0)).flatten] [42] Q60 (by rfl) (by rfl) hx.size
      exact onn
     case t36 => exact inferInstance
     clear hr; intro a37 w37 x hr hd hs
     have z_w_w35 := e_w.size
     have l37_5 := PxS.lt s5
     have l37_9 := PxS.lt s9
     have l37_10 := OwnBA.lt s10
     have l37_12 := OwnBA.lt s12
     have l37_14 := PxS.lt s14
     revert s14; revert s12; revert s10; revert s9; revert s5; revert s2; refine kp6 hs rfl ?_; intro s2 s5 s9 s10 s12 s14
     revert s13; revert s11; refine kp2 hs rfl ?_; intro s11 s13
     have s80 := fa ?b36_1 a37 w37 80 (hd 1 80 rfl)
     have s15 := fa ?b36_2 a37 w37 15 (hd 2 15 rfl)
     obtain ⟨g37_15, q37_15⟩ := PxN.at s15; clear s15; have n37_15 := PxS.lt q37_15
     replace q37_15 := PxS.mono q37_15 e_w.size
     have s15 := q37_15; clear q37_15
     replace e_w := e_w.trans x
     have e_w35 := x; clear hd hs x
     have z38 := PxS.lt s15
     have l38 := (show (g37_15 = 0 ∨ w.heap.size < g37_15) ∧ True from ⟨by omega, trivial⟩)
     have l38_5 := PxS.lt (Q00 e_w35 s5)
     have l38_9 := PxS.lt (Q00 e_w35 s9)
     have l38_10 := OwnBA.lt (Q00 e_w35 s10)
     have l38_12 := OwnBA.lt (Q00 e_w35 s12)
     have l38_14 := PxS.lt (Q00 e_w35 s14)
     refine Q0e hr Q2g s15 (Is.conv s80 (show _ = PktV { Q0d l with tup := natT (Q0d l).tup Sa n false } from congrArg PktV rd2)) (by exact Q53 (Qdb hA)) (by exact Q4i) rfl ?_; clear hr; intro a38 w38 hc hu hr hs
     have hb : Below w.heap.size w37 w38 := hc.below e_w.size l38.1
     revert s14; revert s12; revert s10; revert s9; revert s5; revert s2; refine kp6 hs rfl ?_; intro s2 s5 s9 s10 s12 s14
     revert s15; revert s13; revert s11; refine kp3 hs rfl ?_; intro s11 s13 s15
     clear s80
     replace s5 := PxS.other (Q00 e_w35 s5) hc (by omega)
     replace s9 := PxS.other (Q00 e_w35 s9) hc (by omega)
     replace s10 := OwnBA.other (Q00 e_w35 s10) hc (by omega)
     replace s12 := OwnBA.other (Q00 e_w35 s12) hc (by omega)
     replace s14 := PxS.other (Q00 e_w35 s14) hc (by omega)
     replace s15 := hu _ _ _ s15
     try simp only [List.set_cons_zero, List.set_cons_succ, pktF] at s15
     replace e_w := e_w.below (Nat.le_refl _) hb
     clear e_w35
     replace s11 := anyw (w2 := w38) s11
     replace s13 := anyw (w2 := w38) s13
     clear hu hs hc hb
     refine wpList_nil ?_
     refine es ?_
     refine Q04 (l := [_, _]) (rest := [_]) 124 [[(9, none)], []] [?b39_0, ?b39_1] hr ?t39 ?o39 ?_
     case o39 =>
      apply oc0; intro A W hx hf
      exact Q0c 12 tu37 rfl Q2g (o1 s9 hx (r0 hf)) rfl
      apply oc0; intro A W hx hf
      exact Q0u (pktF (give 0)) [1, 1, 16, 1, 16, 1, 1, 1, 1, 1, 1, 1] Q60 (by rfl) (by rfl) hx.size
      exact onn
     case t39 => exact inferInstance
     clear hr; intro a40 w40 x hr hd hs
     have z_w_w38 := e_w.size
     have l40_5 := PxS.lt s5
     have l40_9 := PxS.lt s9
     have l40_10 := OwnBA.lt s10
     have l40_12 := OwnBA.lt s12
     have l40_14 := PxS.lt s14
     have l40_15 := PxS.lt s15
     revert s14; revert s12; revert s10; revert s9; revert s5; revert s2; refine kp6 hs rfl ?_; intro s2 s5 s9 s10 s12 s14
     revert s13; revert s11; revert s15; refine kp3 hs rfl ?_; intro s15 s11 s13
     have s81 := fa ?b39_0 a40 w40 81 (hd 0 81 rfl)
     have s16 := fa ?b39_1 a40 w40 16 (hd 1 16 rfl)
     obtain ⟨g40_16, q40_16⟩ := PxN.at s16; clear s16; have n40_16 := PxS.lt q40_16
     replace q40_16 := PxS.mono q40_16 e_w.size
     have s16 := q40_16; clear q40_16
     replace e_w := e_w.trans x
     have e_w38 := x; clear hd hs x
     have z41 := PxS.lt s16
     have l41 := (show (g40_16 = 0 ∨ w.heap.size < g40_16) ∧ True from ⟨by omega, trivial⟩)
     have l41_5 := PxS.lt (Q00 e_w38 s5)
     have l41_9 := PxS.lt (Q00 e_w38 s9)
     have l41_10 := OwnBA.lt (Q00 e_w38 s10)
     have l41_12 := OwnBA.lt (Q00 e_w38 s12)
     have l41_14 := PxS.lt (Q00 e_w38 s14)
     have l41_15 := PxS.lt (Q00 e_w38 s15)
     refine Q15 (pktF (Q0d l)) hr Q2g s16 (Is.conv s81 (show _ = Value.agg (pktF (Q0d l)).flatten.toArray from rfl)) (by exact Q45 (Q32 _)) (by exact Q7h) rfl ?_; clear hr; intro a41 w41 hc hu hr hs
     have hb : Below w.heap.size w40 w41 := hc.below e_w.size l41.1
     revert s14; revert s12; revert s10; revert s9; revert s5; revert s2; refine kp6 hs rfl ?_; intro s2 s5 s9 s10 s12 s14
     revert s16; revert s13; revert s11; revert s15; refine kp4 hs rfl ?_; intro s15 s11 s13 s16
     clear s81
     replace s5 := PxS.other (Q00 e_w38 s5) hc (by omega)
     replace s9 := PxS.other (Q00 e_w38 s9) hc (by omega)
     replace s10 := OwnBA.other (Q00 e_w38 s10) hc (by omega)
     replace s12 := OwnBA.other (Q00 e_w38 s12) hc (by omega)
     replace s14 := PxS.other (Q00 e_w38 s14) hc (by omega)
     replace s15 := PxS.other (Q00 e_w38 s15) hc (by omega)
     replace s16 := hu _ _ _ s16
     try simp only [List.set_cons_zero, List.set_cons_succ, pktF] at s16
     replace e_w := e_w.below (Nat.le_refl _) hb
     clear e_w38
     replace s11 := anyw (w2 := w41) s11
     replace s13 := anyw (w2 := w41) s13
     clear hu hs hc hb
     refine wpList_nil ?_
     refine es ?_
     refine Q04 (l := [_, _, _]) (rest := [_]) 124 [[(5, none)], [(16, none)], [(83, some 1)]] [?b42_0, ?b42_1, ?b42_2] hr ?t42 ?o42 ?_
     case o42 =>
      apply oc0; intro A W hx hf
      exact Q0c 2 tu25 rfl Q0v (o1 s5 hx (r0 hf)) rfl
      apply oc0; intro A W hx hf
      exact Q02 1 tu37 (k := 1) rfl Q1y rfl (o1 s16 hx (r0 hf)) rfl
      apply oc0; intro A W hx hf
      exact Q02 3 tu35 (k := 1) rfl Q0v rfl (q0 ?b42_1 A W 83 hf) rfl
      exact onn
     case t42 => exact inferInstance
     clear hr; intro a43 w43 x hr hd hs
     revert s14; revert s12; revert s10; revert s9; revert s5; revert s2; refine kp6 hs rfl ?_; intro s2 s5 s9 s10 s12 s14
     revert s13; revert s11; revert s16; revert s15; refine kp4 hs rfl ?_; intro s15 s16 s11 s13
     have s82 := fa ?b42_0 a43 w43 82 (hd 0 82 rfl)
     have s84 := fa ?b42_2 a43 w43 84 (hd 2 84 rfl)
     replace e_w := e_w.trans x
     have e_w41 := x; clear hd hs x
     have z44 := PxS.lt s84
     have l44 := (show (g40_16 = 0 ∨ w.heap.size < g40_16) ∧ True from ⟨by omega, trivial⟩)
     have l44_5 := PxS.lt (Q00 e_w41 s5)
     have l44_9 := PxS.lt (Q00 e_w41 s9)
     have l44_10 := OwnBA.lt (Q00 e_w41 s10)
     have l44_12 := OwnBA.lt (Q00 e_w41 s12)
     have l44_14 := PxS.lt (Q00 e_w41 s14)
     have l44_15 := PxS.lt (Q00 e_w41 s15)
     refine Qal (pktF { Q0d l with tup := { (Q0d l).tup with dst := Sa } }) [[.bool Sa.six], Sa.b.map Q12] hr Q0v s84 (Is.conv s82 (show _ = Value.agg ([[Value.bool Sa.six], Sa.b.map Q12] : List (List Value)).flatten.toArray from rfl)) (by rfl) (by exact Nat.le_of_ble_eq_true rfl) (by exact Q45 ⟨(Q32 l).1, hA⟩) (by exact Qhk hA) (by exact Qcp) ?_; clear hr; intro a44 w44 hc hu hr hs
     have hb : Below w.heap.size w43 w44 := hc.below e_w.size l44.1
     revert s14; revert s12; revert s10; revert s9; revert s5; revert s2; refine kp6 hs rfl ?_; intro s2 s5 s9 s10 s12 s14
     revert s13; revert s11; revert s16; revert s15; refine kp4 hs rfl ?_; intro s15 s16 s11 s13
     clear s82 s84
     replace s5 := PxS.other (Q00 e_w41 s5) hc (by omega)
     replace s9 := PxS.other (Q00 e_w41 s9) hc (by omega)
     replace s10 := OwnBA.other (Q00 e_w41 s10) hc (by omega)
     replace s12 := OwnBA.other (Q00 e_w41 s12) hc (by omega)
     replace s14 := PxS.other (Q00 e_w41 s14) hc (by omega)
     replace s15 := PxS.other (Q00 e_w41 s15) hc (by omega)
     replace s16 := hu _ _ _ (Q00 e_w41 s16)
     try simp only [List.set_cons_zero, List.set_cons_succ, pktF] at s16
     replace e_w := e_w.below (Nat.le_refl _) hb
     clear e_w41
     replace s11 := anyw (w2 := w44) s11
     replace s13 := anyw (w2 := w44) s13
     clear hu hs hc hb
     refine wpList_nil ?_
     refine es ?_
     refine Q04 (l := [_, _, _]) (rest := [_]) 124 [[(2, none)], [(16, none)], [(86, some 1)]] [?b45_0, ?b45_1, ?b45_2] hr ?t45 ?o45 ?_
     case o45 =>
      apply oc0; intro A W hx hf
      exact Q01 (a0 := a44) (r0 hf)
      apply oc0; intro A W hx hf
      exact Q02 1 tu37 (k := 1) rfl Q1y rfl (o1 s16 hx (r0 hf)) rfl
      apply oc0; intro A W hx hf
      exact Q02 7 tu35 (k := 4) rfl Q0l rfl (q0 ?b45_1 A W 86 hf) rfl
      exact onn
     case t45 => exact inferInstance
     clear hr; intro a46 w46 x hr hd hs
     have u85 := mv s2 (fa ?b45_0 a46 w46 85 (hd 0 85 rfl))
     revert s14; revert s12; revert s10; revert s9; revert s5; revert s2; refine kp6 hs rfl ?_; intro s2 s5 s9 s10 s12 s14
     revert s13; revert s11; revert s16; revert s15; refine kp4 hs rfl ?_; intro s15 s16 s11 s13
     have s85 := u85; clear u85
     have s87 := fa ?b45_2 a46 w46 87 (hd 2 87 rfl)
     replace e_w := e_w.trans x
     have e_w44 := x; clear hd hs x
     have z47 := PxS.lt s87
     have l47 := (show (g40_16 = 0 ∨ w.heap.size < g40_16) ∧ True from ⟨by omega, trivial⟩)
     have l47_5 := PxS.lt (Q00 e_w44 s5)
     have l47_9 := PxS.lt (Q00 e_w44 s9)
     have l47_10 := OwnBA.lt (Q00 e_w44 s10)
     have l47_12 := OwnBA.lt (Q00 e_w44 s12)
     have l47_14 := PxS.lt (Q00 e_w44 s14)
     have l47_15 := PxS.lt (Q00 e_w44 s15)
     refine Q1i hr Q0l s87 (Q00 e_w s85) (by rfl) rfl ?_; clear hr; intro a47 w47 hc hu hr hs
     have hb : Below w.heap.size w46 w47 := hc.below e_w.size l47.1
     revert s14; revert s12; revert s10; revert s9; revert s5; revert s2; refine kp6 hs rfl ?_; intro s2 s5 s9 s10 s12 s14
     revert s13; revert s11; revert s16; revert s15; refine kp4 hs rfl ?_; intro s15 s16 s11 s13
     clear s85 s87
     replace s5 := PxS.other (Q00 e_w44 s5) hc (by omega)
     replace s9 := PxS.other (Q00 e_w44 s9) hc (by omega)
     replace s10 := OwnBA.other (Q00 e_w44 s10) hc (by omega)
     replace s12 := OwnBA.other (Q00 e_w44 s12) hc (by omega)
     replace s14 := PxS.other (Q00 e_w44 s14) hc (by omega)
     replace s15 := PxS.other (Q00 e_w44 s15) hc (by omega)
     replace s16 := hu _ _ _ (Q00 e_w44 s16)
     try simp only [List.set_cons_zero, List.set_cons_succ, pktF] at s16
     replace e_w := e_w.below (Nat.le_refl _) hb
     clear e_w44
     replace s11 := anyw (w2 := w47) s11
     replace s13 := anyw (w2 := w47) s13
     clear hu hs hc hb
     refine wpList_nil ?_
     replace s16 := PxS.cast s16 (show _ = pktF { Q0d l with tup := natT (Q0d l).tup Sa n true } from rfl)
     refine es ?_
     refine Q04 (l := [_, _, _]) (rest := [_]) 124 [[(5, none)], [(9, none)], [(89, some 1)]] [?b48_0, ?b48_1, ?b48_2] hr ?t48 ?o48 ?_
     case o48 =>
      apply oc0; intro A W hx hf
      exact Q0c 2 tu25 rfl Q0v (o1 s5 hx (r0 hf)) rfl
      apply oc0; intro A W hx hf
      exact Q02 1 tu37 (k := 1) rfl Q1y rfl (o1 s9 hx (r0 hf)) rfl
      apply oc0; intro A W hx hf
      exact Q02 1 tu35 (k := 0) rfl Q0v rfl (q0 ?b48_1 A W 89 hf) rfl
      exact onn
     case t48 => exact inferInstance
     clear hr; intro a49 w49 x hr hd hs
     revert s15; revert s14; revert s12; revert s10; revert s9; revert s2; refine kp6 hs rfl ?_; intro s2 s9 s10 s12 s14 s15
     revert s16; revert s13; revert s11; refine kp3 hs rfl ?_; intro s11 s13 s16
     clear s5
     have s88 := fa ?b48_0 a49 w49 88 (hd 0 88 rfl)
     have s90 := fa ?b48_2 a49 w49 90 (hd 2 90 rfl)
     replace e_w := e_w.trans x
     have e_w47 := x; clear hd hs x
     have z50 := PxS.lt s90
     have l50 := (show (g9_9 = 0 ∨ w.heap.size < g9_9) ∧ True from ⟨by omega, trivial⟩)
     have l50_10 := OwnBA.lt (Q00 e_w47 s10)
     have l50_12 := OwnBA.lt (Q00 e_w47 s12)
     have l50_14 := PxS.lt (Q00 e_w47 s14)
     have l50_15 := PxS.lt (Q00 e_w47 s15)
     have l50_16 := PxS.lt (Q00 e_w47 s16)
     refine Qal (pktF { Q0d l with tup := { (Q0d l).tup with src := Sa } }) [[.bool Sa.six], Sa.b.map Q12] hr Q0v s90 (Is.conv s88 (show _ = Value.agg ([[Value.bool Sa.six], Sa.b.map Q12] : List (List Value)).flatten.toArray from rfl)) (by rfl) (by exact Nat.le_of_ble_eq_true rfl) (by exact Q45 ⟨hA, (Q32 l).2⟩) (by exact Qhk hA) (by exact Qcp) ?_; clear hr; intro a50 w50 hc hu hr hs
     have hb : Below w.heap.size w49 w50 := hc.below e_w.size l50.1
     revert s15; revert s14; revert s12; revert s10; revert s9; revert s2; refine kp6 hs rfl ?_; intro s2 s9 s10 s12 s14 s15
     revert s16; revert s13; revert s11; refine kp3 hs rfl ?_; intro s11 s13 s16
     clear s88 s90
     replace s9 := hu _ _ _ (Q00 e_w47 s9)
     try simp only [List.set_cons_zero, List.set_cons_succ, pktF] at s9
     replace s10 := OwnBA.other (Q00 e_w47 s10) hc (by omega)
     replace s12 := OwnBA.other (Q00 e_w47 s12) hc (by omega)
     replace s14 := PxS.other (Q00 e_w47 s14) hc (by omega)
     replace s15 := PxS.other (Q00 e_w47 s15) hc (by omega)
     replace s16 := PxS.other (Q00 e_w47 s16) hc (by omega)
     replace e_w := e_w.below (Nat.le_refl _) hb
     clear e_w47
     replace s11 := anyw (w2 := w50) s11
     replace s13 := anyw (w2 := w50) s13
     clear hu hs hc hb
     refine wpList_nil ?_
     refine es ?_
     refine Q04 (l := [_, _, _]) (rest := [_]) 124 [[(2, none)], [(9, none)], [(92, some 1)]] [?b51_0, ?b51_1, ?b51_2] hr ?t51 ?o51 ?_
     case o51 =>
      apply oc0; intro A W hx hf
      exact Q01 (a0 := a50) (r0 hf)
      apply oc0; intro A W hx hf
      exact Q02 1 tu37 (k := 1) rfl Q1y rfl (o1 s9 hx (r0 hf)) rfl
      apply oc0; intro A W hx hf
      exact Q02 6 tu35 (k := 3) rfl Q0l rfl (q0 ?b51_1 A W 92 hf) rfl
      exact onn
     case t51 => exact inferInstance
     clear hr; intro a52 w52 x hr hd hs
     have u91 := mv s2 (fa ?b51_0 a52 w52 91 (hd 0 91 rfl))
     revert s16; revert s15; revert s14; revert s12; revert s10; revert s9; refine kp6 hs rfl ?_; intro s9 s10 s12 s14 s15 s16
     revert s13; revert s11; refine kp2 hs rfl ?_; intro s11 s13
     clear s2
     have s91 := u91; clear u91
     have s93 := fa ?b51_2 a52 w52 93 (hd 2 93 rfl)
     replace e_w := e_w.trans x
     have e_w50 := x; clear hd hs x
     have z53 := PxS.lt s93
     have l53 := (show (g9_9 = 0 ∨ w.heap.size < g9_9) ∧ True from ⟨by omega, trivial⟩)
     have l53_10 := OwnBA.lt (Q00 e_w50 s10)
     have l53_12 := OwnBA.lt (Q00 e_w50 s12)
     have l53_14 := PxS.lt (Q00 e_w50 s14)
     have l53_15 := PxS.lt (Q00 e_w50 s15)
     have l53_16 := PxS.lt (Q00 e_w50 s16)
     refine Q1i hr Q0l s93 (Q00 e_w s91) (by rfl) rfl ?_; clear hr; intro a53 w53 hc hu hr hs
     have hb : Below w.heap.size w52 w53 := hc.below e_w.size l53.1
     revert s16; revert s15; revert s14; revert s12; revert s10; revert s9; refine kp6 hs rfl ?_; intro s9 s10 s12 s14 s15 s16
     revert s13; revert s11; refine kp2 hs rfl ?_; intro s11 s13
     clear s91 s93
     replace s9 := hu _ _ _ (Q00 e_w50 s9)
     try simp only [List.set_cons_zero, List.set_cons_succ, pktF] at s9
     replace s10 := OwnBA.other (Q00 e_w50 s10) hc (by omega)
     replace s12 := OwnBA.other (Q00 e_w50 s12) hc (by omega)
     replace s14 := PxS.other (Q00 e_w50 s14) hc (by omega)
     replace s15 := PxS.other (Q00 e_w50 s15) hc (by omega)
     replace s16 := PxS.other (Q00 e_w50 s16) hc (by omega)
     replace e_w := e_w.below (Nat.le_refl _) hb
     clear e_w50
     replace s11 := anyw (w2 := w53) s11
     replace s13 := anyw (w2 := w53) s13
     clear hu hs hc hb
     refine wpList_nil ?_
     replace s9 := PxS.cast s9 (show _ = pktF { Q0d l with tup := natT (Q0d l).tup Sa n false } from rfl)
     refine es ?_
     refine Q05 124 ([(11, none)] :: [(94, some 0)] :: [(95, some 1)] :: [(13, none), (96, some 2)] :: [(97, some 3), (96, some 2)] :: [(96, some 2), (98, some 4)] :: [(99, some 5)] :: [(14, none), (100, some 6)] :: [(16, none), (100, some 6)] :: [(101, some 7), (102, some 8), (100, some 6)] :: [(100, some 6), (103, some 9)] :: [(104, some 10)] :: [(15, none), (105, some 11)] :: [(9, none), (105, some 11)] :: [(106, some 12), (107, some 13), (105, some 11)] :: [(105, some 11), (108, some 14)] :: [(109, some 15)] :: [(10, none), (110, some 16)] :: [(111, some 17), (110, some 16)] :: [(9, none), (110, some 16)] :: [(113, some 19), (110, some 16)] :: [(112, some 18), (114, some 20), (110, some 16)] :: [(110, some 16), (115, some 21)] :: [(116, some 22)] :: [(12, none), (117, some 23)] :: [(118, some 24), (117, some 23)] :: [(9, none), (117, some 23)] :: [(120, some 26), (117, some 23)] :: [(119, some 25), (121, some 27), (117, some 23)] :: [(117, some 23), (122, some 28)] :: [(123, some 29)] :: []) (?b54_0 :: ?b54_1 :: ?b54_1 :: ?b54_3 :: ?b54_4 :: ?b54_5 :: ?b54_5 :: ?b54_7 :: ?b54_8 :: ?b54_9 :: ?b54_10 :: ?b54_10 :: ?b54_12 :: ?b54_13 :: ?b54_14 :: ?b54_15 :: ?b54_15 :: ?b54_17 :: ?b54_18 :: ?b54_19 :: ?b54_20 :: ?b54_21 :: ?b54_22 :: ?b54_22 :: ?b54_24 :: ?b54_25 :: ?b54_26 :: ?b54_27 :: ?b54_28 :: ?b54_29 :: ?b54_29 :: []) Q0a hr ?t54 ?o54 ?_
     case o54 =>
      apply oc0; intro A W hx hf
      exact Q01 (a0 := a53) (r0 hf)
      apply oc0; intro A W hx hf
      exact Q1a (p1 s11 hx (q0 ?b54_0 A W 94 hf)) (ec A (.int .i64 0))
      apply oc0; intro A W hx hf
      exact Q0i (q0 ?b54_1 A W 95 hf)
      refine ocg 96 ?_ (fun A W hx hf => ?_) ?_
      rfl
      exact gd_t (q1 ?b54_1 A W 96 hf) (fun hc => Q01 (a0 := a53) (r0 hf))
      refine ocg 96 ?_ (fun A W hx hf => ?_) ?_
      rfl
      exact gd_t (q1 ?b54_1 A W 96 hf) (fun hc => Q1a (p1 s13 hx (G.get (q0 ?b54_3 A W 97 hf) hc)) (ec A (.int .i64 0)))
      apply oc0; intro A W hx hf
      exact Q1x (q0 ?b54_1 A W 96 hf) (q1 ?b54_4 A W 98 hf)
      apply oc0; intro A W hx hf
      exact Q0i (q0 ?b54_5 A W 99 hf)
      refine ocg 100 ?_ (fun A W hx hf => ?_) ?_
      rfl
      exact gd_t (q1 ?b54_5 A W 100 hf) (fun hc => Qc0 tu37 rfl Q2g (o1 s14 hx (r0 hf)) rfl rfl)
      refine ocg 100 ?_ (fun A W hx hf => ?_) ?_
      rfl
      exact gd_t (q1 ?b54_5 A W 100 hf) (fun hc => Q0c 12 tu37 rfl Q2g (o1 s16 hx (r0 hf)) rfl)
      refine ocg 100 ?_ (fun A W hx hf => ?_) ?_
      rfl
      exact gd_t (q2 ?b54_5 A W 100 hf) (fun hc => Qdz Qrm (Qom (Qdb (l := l) (n := n) (dst := true) hA)) (Is.conv (G.get (q0 ?b54_7 A W 101 hf) hc) (show _ = PktV { Q0d l with tup := natT (Q0d l).tup Sa n true } from by simp [PktV])) (Is.conv (G.get (q1 ?b54_8 A W 102 hf) hc) (show _ = PktV { Q0d l with tup := natT (Q0d l).tup Sa n true } from Q8h _)))
      apply oc0; intro A W hx hf
      exact Q1x (q0 ?b54_5 A W 100 hf) (q1 ?b54_9 A W 103 hf)
      apply oc0; intro A W hx hf
      exact Q0i (q0 ?b54_10 A W 104 hf)
      refine ocg 105 ?_ (fun A W hx hf => ?_) ?_
      rfl
      exact gd_t (q1 ?b54_10 A W 105 hf) (fun hc => Qc0 tu37 rfl Q2g (o1 s15 hx (r0 hf)) rfl rfl)
      refine ocg 105 ?_ (fun A W hx hf => ?_) ?_
      rfl
      exact gd_t (q1 ?b54_10 A W 105 hf) (fun hc => Q0c 12 tu37 rfl Q2g (o1 s9 hx (r0 hf)) rfl)
      refine ocg 105 ?_ (fun A W hx hf => ?_) ?_
      rfl
      exact gd_t (q2 ?b54_10 A W 105 hf) (fun hc => Qdz Qrm (Qom (Qdb (l := l) (n := n) (dst := false) hA)) (Is.conv (G.get (q0 ?b54_12 A W 106 hf) hc) (show _ = PktV { Q0d l with tup := natT (Q0d l).tup Sa n false } from by simp [PktV])) (Is.conv (G.get (q1 ?b54_13 A W 107 hf) hc) (show _ = PktV { Q0d l with tup := natT (Q0d l).tup Sa n false } from Q8h _)))
      apply oc0; intro A W hx hf
      exact Q1x (q0 ?b54_10 A W 105 hf) (q1 ?b54_14 A W 108 hf)
      apply oc0; intro A W hx hf
      exact Q0i (q0 ?b54_15 A W 109 hf)
      refine ocg 110 ?_ (fun A W hx hf => ?_) ?_
      rfl
      exact gd_t (q1 ?b54_15 A W 110 hf) (fun hc => Q01 (a0 := a53) (r0 hf))
      refine ocg 110 ?_ (fun A W hx hf => ?_) ?_
      rfl
      exact gd_t (q1 ?b54_15 A W 110 hf) (fun hc => Q0x tu22 (OwnBA.bs (p1 s10 hx (G.get (q0 ?b54_17 A W 111 hf) hc))))
      refine ocg 110 ?_ (fun A W hx hf => ?_) ?_
      rfl
      exact gd_t (q1 ?b54_15 A W 110 hf) (fun hc => Q02 11 tu37 (k := 5) rfl Q0l rfl (o1 s9 hx (r0 hf)) rfl)
      refine ocg 110 ?_ (fun A W hx hf => ?_) ?_
      rfl
      exact gd_t (q1 ?b54_15 A W 110 hf) (fun hc => Q09 tu3 rfl (G.get (q0 ?b54_19 A W 113 hf) hc) rfl)
      refine ocg 110 ?_ (fun A W hx hf => ?_) ?_
      rfl
      exact gd_t (q2 ?b54_15 A W 110 hf) (fun hc => Q1a (G.get (q0 ?b54_18 A W 112 hf) hc) (G.get (q1 ?b54_20 A W 114 hf) hc))
      apply oc0; intro A W hx hf
      exact Q1x (q0 ?b54_15 A W 110 hf) (q1 ?b54_21 A W 115 hf)
      apply oc0; intro A W hx hf
      exact Q0i (q0 ?b54_22 A W 116 hf)
      refine ocg 117 ?_ (fun A W hx hf => ?_) ?_
      rfl
      exact gd_t (q1 ?b54_22 A W 117 hf) (fun hc => Q01 (a0 := a53) (r0 hf))
      refine ocg 117 ?_ (fun A W hx hf => ?_) ?_
      rfl
      exact gd_t (q1 ?b54_22 A W 117 hf) (fun hc => Q0x tu22 (OwnBA.bs (p1 s12 hx (G.get (q0 ?b54_24 A W 118 hf) hc))))
      refine ocg 117 ?_ (fun A W hx hf => ?_) ?_
      rfl
      exact gd_t (q1 ?b54_22 A W 117 hf) (fun hc => Q02 11 tu37 (k := 5) rfl Q0l rfl (o1 s9 hx (r0 hf)) rfl)
      refine ocg 117 ?_ (fun A W hx hf => ?_) ?_
      rfl
      exact gd_t (q1 ?b54_22 A W 117 hf) (fun hc => Q09 tu3 rfl (G.get (q0 ?b54_26 A W 120 hf) hc) rfl)
      refine ocg 117 ?_ (fun A W hx hf => ?_) ?_
      rfl
      exact gd_t (q2 ?b54_22 A W 117 hf) (fun hc => Q1a (G.get (q0 ?b54_25 A W 119 hf) hc) (G.get (q1 ?b54_27 A W 121 hf) hc))
      apply oc0; intro A W hx hf
      exact Q1x (q0 ?b54_22 A W 117 hf) (q1 ?b54_28 A W 122 hf)
      apply oc0; intro A W hx hf
      exact Q03 (q0 ?b54_29 A W 123 hf)
      exact onn
     case t54 => repeat (first | exact Q5z | refine Q4q ?_)
     clear hr; intro a55 w55 x hr hd hs
     clear s10 s12 s14 s15 s16 s11 s13 s9
     have s8 := fa ?b54_29 a55 w55 8 (hd 30 8 rfl)
     replace e_w := e_w.trans x; clear hd hs x
     refine et ?_
     refine wp_ret ?_
     refine Q10 Try.results4 hr e_w ?_
     first | with_reducible exact s8 | (have h9 := rd1; exact Is.bool s8 (by rw [ln1, ln2, fe3, fe]; simp)) | exact Is.bool s8 (by rw [hno]; rfl)

end Go.Proofs.Ytlmdboaghojgiaa
