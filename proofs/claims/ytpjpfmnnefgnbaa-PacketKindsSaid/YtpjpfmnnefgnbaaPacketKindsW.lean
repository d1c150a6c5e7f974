import Derived.Test.YtpjpfmnnefgnbaaA11
import Derived.Test.YtpjpfmnnefgnbaaC11y
namespace Go.Proofs.Ytpjpfmnnefgnbaa
open Go.RowKit
set_option linter.unusedVariables false
set_option linter.unusedSimpArgs false
set_option maxRecDepth 4000
def D_law_PacketKinds_0 : List Tmp := [82, 83, 84, 85, 86, 87, 88, 89, 90, 91, 92, 93, 94]
set_option maxHeartbeats 4000000 in
theorem law_PacketKinds {x0 x1 x2 x3 x4 x5 : Value} {w : World} {T : TupL} {f z : Int} {load : List UInt8} {p9 t9 : UInt8} (h0 : (Is (TupV T)) x0 w) (h1 : (Is (.int .i64 f)) x1 w) (h2 : (Bs load) x2 w) (h3 : (Is (.int .u16 z)) x3 w) (h4 : (ByteIs p9) x4 w) (h5 : (ByteIs t9) x5 w) (hT9 : TupOk T) (hz9 : 0 ≤ z ∧ z ≤ 65535) :
    Calls Try.prog 7 #[x0, x1, x2, x3, x4, x5] w (Ret (Is (.bool true)) w) := by
 have hll := Bs.len_le h2
 have hk9 : TupOk (four4 T) := four4_ok hT9
 refine enter Try.func7 rfl Try.ntmps7 (k := 6) rfl (by decide) (fun a0 hr hargs => ?_)
 have s0 := sarg h0 (hargs 0 (by decide))
 have s1 := sarg h1 (hargs 1 (by decide))
 have s2 := sarg h2 (hargs 2 (by decide))
 have s3 := sarg h3 (hargs 3 (by decide))
 have s4 := sarg h4 (hargs 4 (by decide))
 have s5 := sarg h5 (hargs 5 (by decide))
 clear hargs
 refine sq ?_
 refine wp_reg 126 [[(0, none)], []] [?b1_0, ?b1_1] mixed hr ?t1 ?o1 ?_
 case o1 =>
  apply oc0; intro A W hx hf
  exact ok_boxS (tupS T) [1, 16, 1, 16, 1, 1, 1] (o1 s0 hx (r0 hf)) (by exact tupS_lens hT9) hx.size
  apply oc0; intro A W hx hf
  exact ok_assignc
  exact onn
 case t1 => exact inferInstance
 clear hr; intro a2 w2 x hr hd hs
 revert s5; revert s4; revert s3; revert s2; revert s1; refine kp5 hs rfl ?_; intro s1 s2 s3 s4 s5
 clear s0
 have s6 := fa ?b1_0 a2 w2 6 (hd 0 6 rfl)
 obtain ⟨g2_6, q2_6⟩ := PxN.at s6; clear s6; have n2_6 := PxS.lt q2_6
 have s6 := q2_6; clear q2_6
 have e_w := x; clear hd hs x
 refine es ?_
 refine wp_reg_pre (l := [_, _]) (rest := [_]) 126 [[(6, none)], [(19, some 0)]] [?b3_0, ?b3_1] hr ?t3 ?o3 ?_
 case o3 =>
  apply oc0; intro A W hx hf
  exact ok_fieldS 0 tu28 (k := 0) rfl size26 rfl (o1 s6 hx (r0 hf)) rfl
  apply oc0; intro A W hx hf
  exact ok_fieldS 0 tu26 (k := 0) rfl size4 rfl (q0 ?b3_0 A W 19 hf) rfl
  exact onn
 case t3 => exact inferInstance
 clear hr; intro a4 w4 x hr hd hs
 revert s6; revert s5; revert s4; revert s3; revert s2; revert s1; refine kp6 hs rfl ?_; intro s1 s2 s3 s4 s5 s6
 have s20 := fa ?b3_1 a4 w4 20 (hd 1 20 rfl)
 replace e_w := e_w.trans x
 have e_w2 := x; clear hd hs x
 have z5 := PxS.lt s20
 have l5 := (show (g2_6 = 0 ∨ w.heap.size < g2_6) ∧ True from ⟨by omega, trivial⟩)
 refine wl_storeS hr size4 s20 (ec a4 (.bool false)) (by rfl) rfl ?_; clear hr; intro a5 w5 hc hu hr hs
 have hb : Below w.heap.size w4 w5 := hc.below e_w.size l5.1
 revert s6; revert s5; revert s4; revert s3; revert s2; revert s1; refine kp6 hs rfl ?_; intro s1 s2 s3 s4 s5 s6
 clear s20
 replace s6 := hu _ _ _ (later e_w2 s6)
 try simp only [List.set_cons_zero, List.set_cons_succ, tupS] at s6
 replace e_w := e_w.below (Nat.le_refl _) hb
 clear e_w2
 clear hu hs hc hb
 refine wpList_nil ?_
 refine es ?_
 refine wp_reg_pre (l := [_, _]) (rest := [_]) 126 [[(6, none)], [(21, some 0)]] [?b6_0, ?b6_1] hr ?t6 ?o6 ?_
 case o6 =>
  apply oc0; intro A W hx hf
  exact ok_fieldS 2 tu28 (k := 1) rfl size26 rfl (o1 s6 hx (r0 hf)) rfl
  apply oc0; intro A W hx hf
  exact ok_fieldS 2 tu26 (k := 0) rfl size4 rfl (q0 ?b6_0 A W 21 hf) rfl
  exact onn
 case t6 => exact inferInstance
 clear hr; intro a7 w7 x hr hd hs
 revert s6; revert s5; revert s4; revert s3; revert s2; revert s1; refine kp6 hs rfl ?_; intro s1 s2 s3 s4 s5 s6
 have s22 := fa ?b6_1 a7 w7 22 (hd 1 22 rfl)
 replace e_w := e_w.trans x
 have e_w5 := x; clear hd hs x
 have z8 := PxS.lt s22
 have l8 := (show (g2_6 = 0 ∨ w.heap.size < g2_6) ∧ True from ⟨by omega, trivial⟩)
 refine wl_storeS hr size4 s22 (ec a7 (.bool false)) (by rfl) rfl ?_; clear hr; intro a8 w8 hc hu hr hs
 have hb : Below w.heap.size w7 w8 := hc.below e_w.size l8.1
 revert s6; revert s5; revert s4; revert s3; revert s2; revert s1; refine kp6 hs rfl ?_; intro s1 s2 s3 s4 s5 s6
 clear s22
 replace s6 := hu _ _ _ (later e_w5 s6)
 try simp only [List.set_cons_zero, List.set_cons_succ, tupS] at s6
 replace e_w := e_w.below (Nat.le_refl _) hb
 clear e_w5
 clear hu hs hc hb
 refine wpList_nil ?_
 replace s6 := PxS.cast s6 (show _ = tupS (four4 T) from rfl)
 refine es ?_
 refine sq ?_
 refine wp_reg 126 [[], [(23, some 0)], [(24, some 1)], [(2, none), (25, some 2)], [(26, some 3), (25, some 2)], [(27, some 4), (25, some 2)], [(25, some 2), (28, some 5)]] [?b9_0, ?b9_1, ?b9_1, ?b9_3, ?b9_4, ?b9_5, ?b9_6] mixed hr ?t9 ?o9 ?_
 case o9 =>
  apply oc0; intro A W hx hf
  exact ok_call0 body9 (c_awake11 )
  apply oc0; intro A W hx hf
  exact ok_not (q0 ?b9_0 A W 23 hf)
  apply oc0; intro A W hx hf
  exact ok_move (q0 ?b9_1 A W 24 hf)
  refine ocg 25 ?_ (fun A W hx hf => ?_) ?_
  rfl
  exact gd_f (q1 ?b9_1 A W 25 hf) (fun hc => ok_movE (a0 := a8) (r0 hf))
  refine ocg 25 ?_ (fun A W hx hf => ?_) ?_
  rfl
  exact gd_f (q1 ?b9_1 A W 25 hf) (fun hc => ok_len_bs tu22 (p2 s2 e_w hx (G.get (q0 ?b9_3 A W 26 hf) hc)))
  refine ocg 25 ?_ (fun A W hx hf => ?_) ?_
  rfl
  exact gd_f (q1 ?b9_1 A W 25 hf) (fun hc => ok_gtr (G.get (q0 ?b9_4 A W 27 hf) hc) (ec A (.int .i64 300)))
  apply oc0; intro A W hx hf
  exact ok_or (q0 ?b9_1 A W 25 hf) (q1 ?b9_5 A W 28 hf)
  exact onn
 case t9 => exact inferInstance
 clear hr; intro a10 w10 x hr hd hs
 revert s6; revert s5; revert s4; revert s3; revert s2; revert s1; refine kp6 hs rfl ?_; intro s1 s2 s3 s4 s5 s6
 have s29 := fa ?b9_6 a10 w10 29 (hd 6 29 rfl)
 replace e_w := e_w.trans x
 have e_w8 := x; clear hd hs x
 refine et ?_
 refine wp_cond_split (show _ = _ from s29) (fun hg => ?_) (fun hg => ?_)
 ·
  skip
  refine sq ?_
  refine wp_reg 126 [[], [(30, some 0)]] [?b12_0, ?b12_0] mixed hr ?t12 ?o12 ?_
  case o12 =>
   apply oc0; intro A W hx hf
   exact ok_call0 body9 (c_awake11 )
   apply oc0; intro A W hx hf
   exact ok_assign (q0 ?b12_0 A W 30 hf)
   exact onn
  case t12 => exact inferInstance
  clear hr; intro a13 w13 x hr hd hs
  clear s1 s2 s3 s4 s5 s6 s29
  have s12 := fa ?b12_0 a13 w13 12 (hd 1 12 rfl)
  replace e_w := e_w.trans x
  clear e_w8; clear hd hs x
  refine et ?_
  refine wp_ret ?_
  refine then_ret ?_
  refine ret_tmp Try.results7 hr e_w ?_
  first | with_reducible exact s12 | exact Is.bool s12 (by rw [hmk]; rfl) | (exfalso; rw [hkt] at hq9; revert hq9; decide) | exact Is.bool s12 (by rw [hkt, hkn]; rfl)
 have hg9 : load.length ≤ 300 := by simp at hg; omega
 refine wp_skip ?_
 refine es ?_
 refine wp_reg 126 [[], [(6, none)], [(1, none)], [(2, none)], [(32, some 0), (33, some 1), (34, some 2), (35, some 3)], [(36, some 4)], [(31, some 5)], [(31, some 5)], [(37, some 6)], [(38, some 7)]] [?b14_0, ?b14_1, ?b14_2, ?b14_3, ?b14_4, ?b14_4, ?b14_6, ?b14_7, ?b14_6, ?b14_7] mixed hr ?t14 ?o14 ?_
 case o14 =>
  apply oc0; intro A W hx hf
  exact ok_build0 built36
  apply oc0; intro A W hx hf
  exact ok_loadAggS 7 tu28 rfl size28 (o2 s6 e_w8 hx (r0 hf)) rfl
  apply oc0; intro A W hx hf
  exact ok_movE (a0 := a10) (r0 hf)
  apply oc0; intro A W hx hf
  exact ok_movE (a0 := a10) (r0 hf)
  apply oc0; intro A W hx hf
  exact ok_call4 body12 (c_pkMake (LinkV.of (show Is (LnkA link0 (.slice none 0 0)) _ _ from Is.conv (q0 ?b14_0 A W 32 hf) rfl) rw_nil) (Is.conv (q1 ?b14_1 A W 33 hf) (show _ = TupV (four4 T) from rfl)) (p2 s1 e_w hx (q2 ?b14_2 A W 34 hf)) (p2 s2 e_w hx (q3 ?b14_3 A W 35 hf)) (by exact ⟨rfl, rfl⟩) (by exact hk9) (by omega) hx.size)
  apply oc0; intro A W hx hf
  exact ok_move (q0 ?b14_4 A W 36 hf)
  apply oc0; intro A W hx hf
  exact ok_ext0 (q0 ?b14_4 A W 31 hf)
  apply oc0; intro A W hx hf
  exact ok_ext1 (q0 ?b14_4 A W 31 hf)
  apply oc0; intro A W hx hf
  exact ok_assign (q0 ?b14_6 A W 37 hf)
  apply oc0; intro A W hx hf
  exact ok_assign (q0 ?b14_7 A W 38 hf)
  exact onn
 case t14 => exact inferInstance
 clear hr; intro a15 w15 x hr hd hs
 have z_w_w10 := e_w.size
 have z_w8_w10 := e_w8.size
 have l15_6 := PxS.lt (later e_w8 s6)
 revert s5; revert s4; revert s3; refine kp3 hs rfl ?_; intro s3 s4 s5
 clear s1 s2 s6 s29
 have s13 := fa ?b14_6 a15 w15 13 (hd 8 13 rfl)
 have s14 := fa ?b14_7 a15 w15 14 (hd 9 14 rfl)
 obtain ⟨g15_13, q15_13⟩ := OwnB.at s13; clear s13; have n15_13 := OwnBA.lt q15_13
 replace q15_13 := OwnBA.mono q15_13 e_w.size
 have s13 := q15_13; clear q15_13
 replace e_w := e_w.trans x
 clear e_w8; clear hd hs x
 refine es ?_
 refine sq ?_
 refine wp_reg 126 [[(14, none)], [(39, some 0)]] [?b16_0, ?b16_1] mixed hr ?t16 ?o16 ?_
 case o16 =>
  apply oc0; intro A W hx hf
  exact ok_movE (a0 := a15) (r0 hf)
  apply oc0; intro A W hx hf
  exact ok_neq (p1 s14 hx (q0 ?b16_0 A W 39 hf)) (ec A (.int .i64 0))
  exact onn
 case t16 => exact inferInstance
 clear hr; intro a17 w17 x hr hd hs
 revert s13; revert s5; revert s4; revert s3; refine kp4 hs rfl ?_; intro s3 s4 s5 s13
 clear s14
 have s40 := fa ?b16_1 a17 w17 40 (hd 1 40 rfl)
 replace e_w := e_w.trans x
 have e_w15 := x; clear hd hs x
 refine et ?_
 refine wp_cond_split (show _ = _ from s40) (fun he => ?_) (fun he => ?_)
 ·
  have he : (makeR link0 (four4 T) f load).2 ≠ 0 := by simpa using he
  have hmk := makeR_bad he
  refine sq ?_
  refine wp_reg 126 [[(13, none)], [(41, some 0)], [(42, some 1)], [(43, some 2)]] [?b19_0, ?b19_1, ?b19_2, ?b19_2] mixed hr ?t19 ?o19 ?_
  case o19 =>
   apply oc0; intro A W hx hf
   exact ok_movE (a0 := a17) (r0 hf)
   apply oc0; intro A W hx hf
   exact ok_len_bs tu22 (OwnBA.bs (p2 s13 e_w15 hx (q0 ?b19_0 A W 41 hf)))
   apply oc0; intro A W hx hf
   exact ok_eql (q0 ?b19_1 A W 42 hf) (ec A (.int .i64 0))
   apply oc0; intro A W hx hf
   exact ok_assign (q0 ?b19_2 A W 43 hf)
   exact onn
  case t19 => exact inferInstance
  clear hr; intro a20 w20 x hr hd hs
  clear s3 s4 s5 s13 s40
  have s12 := fa ?b19_2 a20 w20 12 (hd 3 12 rfl)
  replace e_w := e_w.trans x
  clear e_w15; clear hd hs x
  refine et ?_
  refine wp_ret ?_
  refine then_ret ?_
  refine ret_tmp Try.results7 hr e_w ?_
  first | with_reducible exact s12 | exact Is.bool s12 (by rw [hmk]; rfl) | (exfalso; rw [hkt] at hq9; revert hq9; decide) | exact Is.bool s12 (by rw [hkt, hkn]; rfl)
 have he : (makeR link0 (four4 T) f load).2 = 0 := by simpa using he
 have hw := makeR_good he
 have hmk := makeR_0 hw
 have hml := made4_len hk9 rfl hw
 have hhl := headL_bd (four4 T)
 have hka := kinds_a (l := makeL link0 (four4 T) f load) (by omega) hz9
 have hkt := kind_part (f := f) (load := load) hk9 rfl hw
 have hkp := fun h => kinds_p (p := p9) (f := f) (load := load) hk9 rfl hw h
 obtain ⟨b20, b22⟩ := byte20 (f := f) (load := load) hk9 rfl hw
 have hkn := kind_net (f := f) (load := load) hk9 rfl hw (turn_ne t9)
 obtain ⟨MK, hMK⟩ : ∃ x, x = makeL link0 (four4 T) f load := ⟨_, rfl⟩
 rw [← hMK] at hml hka hkt b20 b22 hkn
 simp only [← hMK] at hkp
 replace s13 := OwnBA.cast s13 (show _ = MK from by rw [hmk, hMK])
 clear hMK hmk
 have c20 := get64 b20 (by omega)
 have c22 := get64 b22 (by omega)
 refine wp_skip ?_
 refine es ?_
 refine wp_reg_pre (l := [_, _]) (rest := [_, _]) 126 [[], [(13, none)]] [?b21_0, ?b21_1] hr ?t21 ?o21 ?_
 case o21 =>
  apply oc0; intro A W hx hf
  exact ok_ownBs [] [] tu22 size5 zero5 rfl rfl (by decide) hx.size (PartsOk.nil)
  apply oc0; intro A W hx hf
  exact ok_movE (a0 := a17) (r0 hf)
  exact onn
 case t21 => exact inferInstance
 clear hr; intro a22 w22 x hr hd hs
 have z_w_w17 := e_w.size
 have z_w15_w17 := e_w15.size
 have l22_13 := OwnBA.lt (later e_w15 s13)
 have u45 := mv s13 (fa ?b21_1 a22 w22 45 (hd 1 45 rfl))
 revert s13; revert s5; revert s4; revert s3; refine kp4 hs rfl ?_; intro s3 s4 s5 s13
 clear s40
 have s45 := u45; clear u45
 have s44 := fa ?b21_0 a22 w22 44 (hd 0 44 rfl)
 obtain ⟨g22_44, q22_44⟩ := OwnB.at s44; clear s44; have n22_44 := OwnBA.lt q22_44
 replace q22_44 := OwnBA.mono q22_44 e_w.size
 have s44 := q22_44; clear q22_44
 replace e_w := e_w.trans x
 replace e_w15 := e_w15.trans x; clear hd hs x
 have l23 := OwnBA.lt s44
 have l23_13 := OwnBA.lt (later e_w15 s13)
 refine wl_append_bsA hr (by decide) tu22 info5 rfl s44 (OwnBA.bs (later e_w15 s45)) e_w.size (by first | (simp only [List.length_nil, Nat.zero_add, Nat.mul_one]; omega) | (simp; omega)) ?_; clear hr; intro g23 a23 w23 hg23 hc hr hd hs
 have hb := hc.below e_w.size l23.1
 revert s13; revert s5; revert s4; revert s3; refine kp4 hs rfl ?_; intro s3 s4 s5 s13
 clear s45 s44
 replace s13 := OwnBA.other (later e_w15 s13) hc (by omega)
 have s46 := hd
 replace e_w := e_w.below (Nat.le_refl _) hb
 clear e_w15
 clear hd hs hb hc
 refine wl_op hr (ok_assign s46) inferInstance ?_; clear hr; intro a24 w24 x hr hd hs
 revert s13; revert s5; revert s4; revert s3; refine kp4 hs rfl ?_; intro s3 s4 s5 s13
 clear s46
 have s15 := hd 15 rfl (by decide)
 replace e_w := e_w.trans x
 have e_w23 := x; clear hd hs x
 refine wpList_nil ?_
 replace s15 := OwnBA.cast s15 (show _ = MK from List.nil_append _)
 refine es ?_
 refine wp_reg_pre (l := [_, _, _, _, _]) (rest := [_]) 126 [[(15, none)], [(3, none)], [(48, some 1)], [(49, some 2)], [(47, some 0)]] [?b25_0, ?b25_1, ?b25_2, ?b25_3, ?b25_4] hr ?t25 ?o25 ?_
 case o25 =>
  apply oc0; intro A W hx hf
  exact ok_movE (a0 := a24) (r0 hf)
  apply oc0; intro A W hx hf
  exact ok_movE (a0 := a24) (r0 hf)
  apply oc0; intro A W hx hf
  exact ok_shr 8 (by decide) (p2 s3 e_w hx (q0 ?b25_1 A W 48 hf)) (ec A (.int .u64 8))
  apply oc0; intro A W hx hf
  exact ok_conv8 tu46 tu5 (q0 ?b25_2 A W 49 hf)
  apply oc0; intro A W hx hf
  exact ok_indexA (12) tu22 size5 (p1 s15 hx (q0 ?b25_0 A W 47 hf)) (ec A (.int .i64 12)) (by first | omega | (simp; omega))
  exact onn
 case t25 => exact inferInstance
 clear hr; intro a26 w26 x hr hd hs
 revert s15; revert s13; revert s5; revert s4; revert s3; refine kp5 hs rfl ?_; intro s3 s4 s5 s13 s15
 have s50 := fa ?b25_3 a26 w26 50 (hd 3 50 rfl)
 have s51 := fa ?b25_4 a26 w26 51 (hd 4 51 rfl)
 replace e_w := e_w.trans x
 replace e_w23 := e_w23.trans x
 have e_w24 := x; clear hd hs x
 have z27 := EpA.lt s51
 have l27 := (show (g23 = 0 ∨ w.heap.size < g23) ∧ True from ⟨by omega, trivial⟩)
 have l27_13 := OwnBA.lt (later e_w23 s13)
 refine wl_storeA hr size5 s51 s50 ?_; clear hr; intro a27 w27 hc hu hr hs
 have hb : Below w.heap.size w26 w27 := hc.below e_w.size l27.1
 revert s15; revert s13; revert s5; revert s4; revert s3; refine kp5 hs rfl ?_; intro s3 s4 s5 s13 s15
 clear s50 s51
 replace s13 := OwnBA.other (later e_w23 s13) hc (by omega)
 replace s15 := hu _ _ _ (later e_w24 s15)
 replace e_w := e_w.below (Nat.le_refl _) hb
 clear e_w23
 clear e_w24
 clear hu hs hc hb
 refine wpList_nil ?_
 refine es ?_
 refine wp_reg_pre (l := [_, _, _, _]) (rest := [_]) 126 [[(15, none)], [(3, none)], [(53, some 1)], [(52, some 0)]] [?b28_0, ?b28_1, ?b28_2, ?b28_3] hr ?t28 ?o28 ?_
 case o28 =>
  apply oc0; intro A W hx hf
  exact ok_movE (a0 := a27) (r0 hf)
  apply oc0; intro A W hx hf
  exact ok_movE (a0 := a27) (r0 hf)
  apply oc0; intro A W hx hf
  exact ok_conv8 tu46 tu5 (p2 s3 e_w hx (q0 ?b28_1 A W 53 hf))
  apply oc0; intro A W hx hf
  exact ok_indexA (13) tu22 size5 (p1 s15 hx (q0 ?b28_0 A W 52 hf)) (ec A (.int .i64 13)) (by first | omega | (simp; omega))
  exact onn
 case t28 => exact inferInstance
 clear hr; intro a29 w29 x hr hd hs
 revert s15; revert s13; revert s5; revert s4; revert s3; refine kp5 hs rfl ?_; intro s3 s4 s5 s13 s15
 have s54 := fa ?b28_2 a29 w29 54 (hd 2 54 rfl)
 have s55 := fa ?b28_3 a29 w29 55 (hd 3 55 rfl)
 replace e_w := e_w.trans x
 have e_w27 := x; clear hd hs x
 have z30 := EpA.lt s55
 have l30 := (show (g23 = 0 ∨ w.heap.size < g23) ∧ True from ⟨by omega, trivial⟩)
 have l30_13 := OwnBA.lt (later e_w27 s13)
 refine wl_storeA hr size5 s55 s54 ?_; clear hr; intro a30 w30 hc hu hr hs
 have hb : Below w.heap.size w29 w30 := hc.below e_w.size l30.1
 revert s15; revert s13; revert s5; revert s4; revert s3; refine kp5 hs rfl ?_; intro s3 s4 s5 s13 s15
 clear s54 s55
 replace s13 := OwnBA.other (later e_w27 s13) hc (by omega)
 replace s15 := hu _ _ _ (later e_w27 s15)
 replace e_w := e_w.below (Nat.le_refl _) hb
 clear e_w27
 clear hu hs hc hb
 refine wpList_nil ?_
 refine es ?_
 refine sq ?_
 refine wp_reg 126 [[(3, none)], [(56, some 0)], [(57, some 1)], [(3, none), (58, some 2)], [(59, some 3), (58, some 2)], [(58, some 2), (60, some 4)], [(61, some 5)], [(3, none), (62, some 6)], [(63, some 7), (62, some 6)], [(62, some 6), (64, some 8)], [(65, some 9)], [(3, none), (66, some 10)], [(67, some 11), (66, some 10)], [(66, some 10), (68, some 12)], [(69, some 13)], [(15, none), (70, some 14)], [(71, some 15), (70, some 14)], [(72, some 16), (70, some 14)], [(73, some 17), (70, some 14)], [(70, some 14), (74, some 18)]] [?b31_0, ?b31_1, ?b31_1, ?b31_3, ?b31_4, ?b31_5, ?b31_5, ?b31_7, ?b31_8, ?b31_9, ?b31_9, ?b31_11, ?b31_12, ?b31_13, ?b31_13, ?b31_15, ?b31_16, ?b31_17, ?b31_18, ?b31_19] mixed hr ?t31 ?o31 ?_
 case o31 =>
  apply oc0; intro A W hx hf
  exact ok_movE (a0 := a30) (r0 hf)
  apply oc0; intro A W hx hf
  exact ok_neq (p2 s3 e_w hx (q0 ?b31_0 A W 56 hf)) (ec A (.int .u16 2048))
  apply oc0; intro A W hx hf
  exact ok_move (q0 ?b31_1 A W 57 hf)
  refine ocg 58 ?_ (fun A W hx hf => ?_) ?_
  rfl
  exact gd_t (q1 ?b31_1 A W 58 hf) (fun hc => ok_movE (a0 := a30) (r0 hf))
  refine ocg 58 ?_ (fun A W hx hf => ?_) ?_
  rfl
  exact gd_t (q1 ?b31_1 A W 58 hf) (fun hc => ok_neq (p2 s3 e_w hx (G.get (q0 ?b31_3 A W 59 hf) hc)) (ec A (.int .u16 34525)))
  apply oc0; intro A W hx hf
  exact ok_and (q0 ?b31_1 A W 58 hf) (q1 ?b31_4 A W 60 hf)
  apply oc0; intro A W hx hf
  exact ok_move (q0 ?b31_5 A W 61 hf)
  refine ocg 62 ?_ (fun A W hx hf => ?_) ?_
  rfl
  exact gd_t (q1 ?b31_5 A W 62 hf) (fun hc => ok_movE (a0 := a30) (r0 hf))
  refine ocg 62 ?_ (fun A W hx hf => ?_) ?_
  rfl
  exact gd_t (q1 ?b31_5 A W 62 hf) (fun hc => ok_neq (p2 s3 e_w hx (G.get (q0 ?b31_7 A W 63 hf) hc)) (ec A (.int .u16 33024)))
  apply oc0; intro A W hx hf
  exact ok_and (q0 ?b31_5 A W 62 hf) (q1 ?b31_8 A W 64 hf)
  apply oc0; intro A W hx hf
  exact ok_move (q0 ?b31_9 A W 65 hf)
  refine ocg 66 ?_ (fun A W hx hf => ?_) ?_
  rfl
  exact gd_t (q1 ?b31_9 A W 66 hf) (fun hc => ok_movE (a0 := a30) (r0 hf))
  refine ocg 66 ?_ (fun A W hx hf => ?_) ?_
  rfl
  exact gd_t (q1 ?b31_9 A W 66 hf) (fun hc => ok_neq (p2 s3 e_w hx (G.get (q0 ?b31_11 A W 67 hf) hc)) (ec A (.int .u16 34984)))
  apply oc0; intro A W hx hf
  exact ok_and (q0 ?b31_9 A W 66 hf) (q1 ?b31_12 A W 68 hf)
  apply oc0; intro A W hx hf
  exact ok_move (q0 ?b31_13 A W 69 hf)
  refine ocg 70 ?_ (fun A W hx hf => ?_) ?_
  rfl
  exact gd_t (q1 ?b31_13 A W 70 hf) (fun hc => ok_movE (a0 := a30) (r0 hf))
  refine ocg 70 ?_ (fun A W hx hf => ?_) ?_
  rfl
  exact gd_t (q1 ?b31_13 A W 70 hf) (fun hc => ok_call1 body10 (c_pkRead (OwnBA.bs (p1 s15 hx (G.get (q0 ?b31_15 A W 71 hf) hc)))))
  refine ocg 70 ?_ (fun A W hx hf => ?_) ?_
  rfl
  exact gd_t (q1 ?b31_13 A W 70 hf) (fun hc => ok_fieldC (k := 0) 0 3 _ tu30 ⟨_, rfl, rfl, rfl⟩ tu3 rfl (G.get (q0 ?b31_16 A W 72 hf) hc) (by rfl))
  refine ocg 70 ?_ (fun A W hx hf => ?_) ?_
  rfl
  exact gd_t (q1 ?b31_13 A W 70 hf) (fun hc => ok_neq (G.get (q0 ?b31_17 A W 73 hf) hc) (ec A (.int .i64 2)))
  apply oc0; intro A W hx hf
  exact ok_and (q0 ?b31_13 A W 70 hf) (q1 ?b31_18 A W 74 hf)
  exact onn
 case t31 => exact inferInstance
 clear hr; intro a32 w32 x hr hd hs
 revert s13; revert s5; revert s4; refine kp3 hs rfl ?_; intro s4 s5 s13
 clear s3 s15
 have s75 := fa ?b31_19 a32 w32 75 (hd 19 75 rfl)
 replace e_w := e_w.trans x
 have e_w30 := x; clear hd hs x
 refine et ?_
 refine wp_cond_split (show _ = _ from s75) (fun hd9 => ?_) (fun hd9 => ?_)
 ·
  exfalso; exact absurd (hd9.symm.trans hka) (by decide)
 try simp only [decide_eq_true_eq, decide_eq_false_iff_not, Bool.not_eq_true', Bool.not_eq_false', Bool.not_true, Bool.not_false, Bool.and_eq_true, Bool.and_eq_false_iff, Bool.or_eq_true, Bool.or_eq_false_iff, bne_iff_ne, beq_iff_eq, ne_eq, beq_eq_false_iff_ne, bne_eq_false_iff_eq] at hd9
 refine wp_skip ?_
 refine es ?_
 refine wp_reg_pre (l := [_, _]) (rest := [_, _]) 126 [[], [(13, none)]] [?b34_0, ?b34_1] hr ?t34 ?o34 ?_
 case o34 =>
  apply oc0; intro A W hx hf
  exact ok_ownBs [] [] tu22 size5 zero5 rfl rfl (by decide) hx.size (PartsOk.nil)
  apply oc0; intro A W hx hf
  exact ok_movE (a0 := a32) (r0 hf)
  exact onn
 case t34 => exact inferInstance
 clear hr; intro a35 w35 x hr hd hs
 have z_w_w32 := e_w.size
 have z_w30_w32 := e_w30.size
 have l35_13 := OwnBA.lt (later e_w30 s13)
 have u77 := mv s13 (fa ?b34_1 a35 w35 77 (hd 1 77 rfl))
 revert s13; revert s5; revert s4; refine kp3 hs rfl ?_; intro s4 s5 s13
 clear s75
 have s77 := u77; clear u77
 have s76 := fa ?b34_0 a35 w35 76 (hd 0 76 rfl)
 obtain ⟨g35_76, q35_76⟩ := OwnB.at s76; clear s76; have n35_76 := OwnBA.lt q35_76
 replace q35_76 := OwnBA.mono q35_76 e_w.size
 have s76 := q35_76; clear q35_76
 replace e_w := e_w.trans x
 replace e_w30 := e_w30.trans x; clear hd hs x
 have l36 := OwnBA.lt s76
 have l36_13 := OwnBA.lt (later e_w30 s13)
 refine wl_append_bsA hr (by decide) tu22 info5 rfl s76 (OwnBA.bs (later e_w30 s77)) e_w.size (by first | (simp only [List.length_nil, Nat.zero_add, Nat.mul_one]; omega) | (simp; omega)) ?_; clear hr; intro g36 a36 w36 hg36 hc hr hd hs
 have hb := hc.below e_w.size l36.1
 revert s13; revert s5; revert s4; refine kp3 hs rfl ?_; intro s4 s5 s13
 clear s77 s76
 replace s13 := OwnBA.other (later e_w30 s13) hc (by omega)
 have s78 := hd
 replace e_w := e_w.below (Nat.le_refl _) hb
 clear e_w30
 clear hd hs hb hc
 refine wl_op hr (ok_assign s78) inferInstance ?_; clear hr; intro a37 w37 x hr hd hs
 revert s13; revert s5; revert s4; refine kp3 hs rfl ?_; intro s4 s5 s13
 clear s78
 have s16 := hd 16 rfl (by decide)
 replace e_w := e_w.trans x
 have e_w36 := x; clear hd hs x
 refine wpList_nil ?_
 replace s16 := OwnBA.cast s16 (show _ = MK from List.nil_append _)
 refine es ?_
 refine wp_reg_pre (l := [_, _, _]) (rest := [_]) 126 [[(16, none)], [(4, none)], [(79, some 0)]] [?b38_0, ?b38_1, ?b38_2] hr ?t38 ?o38 ?_
 case o38 =>
  apply oc0; intro A W hx hf
  exact ok_movE (a0 := a37) (r0 hf)
  apply oc0; intro A W hx hf
  exact ok_movE (a0 := a37) (r0 hf)
  apply oc0; intro A W hx hf
  exact ok_indexA (23) tu22 size5 (p1 s16 hx (q0 ?b38_0 A W 79 hf)) (ec A (.int .i64 23)) (by first | omega | (simp; omega))
  exact onn
 case t38 => exact inferInstance
 clear hr; intro a39 w39 x hr hd hs
 have u80 := mv s4 (fa ?b38_1 a39 w39 80 (hd 1 80 rfl))
 revert s16; revert s13; revert s5; revert s4; refine kp4 hs rfl ?_; intro s4 s5 s13 s16
 have s80 := u80; clear u80
 have s81 := fa ?b38_2 a39 w39 81 (hd 2 81 rfl)
 replace e_w := e_w.trans x
 replace e_w36 := e_w36.trans x
 have e_w37 := x; clear hd hs x
 have z40 := EpA.lt s81
 have l40 := (show (g36 = 0 ∨ w.heap.size < g36) ∧ True from ⟨by omega, trivial⟩)
 have l40_13 := OwnBA.lt (later e_w36 s13)
 refine wl_storeA hr size5 s81 (later e_w s80) ?_; clear hr; intro a40 w40 hc hu hr hs
 have hb : Below w.heap.size w39 w40 := hc.below e_w.size l40.1
 revert s16; revert s13; revert s5; revert s4; refine kp4 hs rfl ?_; intro s4 s5 s13 s16
 clear s80 s81
 replace s13 := OwnBA.other (later e_w36 s13) hc (by omega)
 replace s16 := hu _ _ _ (later e_w37 s16)
 replace e_w := e_w.below (Nat.le_refl _) hb
 clear e_w36
 clear e_w37
 clear hu hs hc hb
 refine wpList_nil ?_
 refine es ?_
 refine sq ?_
 refine wp_cut (fun A W => Fr 126 A ∧ Same D_law_PacketKinds_0 a40 A ∧ Ext w W ∧ (OwnBA g15_13 w.heap.size 5 (MK)) (A.eval (.tmp 13)) W ∧ (Is (.bool false)) (A.eval (.tmp 94)) W) ?cut41 ?_
 case cut41 =>
  have m41 : Same D_law_PacketKinds_0 a40 a40 := Same.rfl
  refine wp_reg_pre (l := [_, _, _, _, _, _, _]) (rest := [_, _, _, _, _, _]) 126 [[(4, none)], [(82, some 0)], [(83, some 1)], [(4, none), (84, some 2)], [(85, some 3), (84, some 2)], [(84, some 2), (86, some 4)], [(87, some 5)]] [?b42_0, ?b42_1, ?b42_1, ?b42_3, ?b42_4, ?b42_5, ?b42_5] hr ?t42 ?o42 ?_
  case o42 =>
   apply oc0; intro A W hx hf
   exact ok_movE (a0 := a40) (r0 hf)
   apply oc0; intro A W hx hf
   exact ok_neq (p2 s4 e_w hx (q0 ?b42_0 A W 82 hf)) (ec A (.int .u8 6))
   apply oc0; intro A W hx hf
   exact ok_move (q0 ?b42_1 A W 83 hf)
   refine ocg 84 ?_ (fun A W hx hf => ?_) ?_
   rfl
   exact gd_t (q1 ?b42_1 A W 84 hf) (fun hc => ok_movE (a0 := a40) (r0 hf))
   refine ocg 84 ?_ (fun A W hx hf => ?_) ?_
   rfl
   exact gd_t (q1 ?b42_1 A W 84 hf) (fun hc => ok_neq (p2 s4 e_w hx (G.get (q0 ?b42_3 A W 85 hf) hc)) (ec A (.int .u8 17)))
   apply oc0; intro A W hx hf
   exact ok_and (q0 ?b42_1 A W 84 hf) (q1 ?b42_4 A W 86 hf)
   apply oc0; intro A W hx hf
   exact ok_move (q0 ?b42_5 A W 87 hf)
   exact onn
  case t42 => exact inferInstance
  clear hr; intro a43 w43 x hr hd hs
  revert s16; revert s13; revert s5; refine kp3 hs rfl ?_; intro s5 s13 s16
  clear s4
  have s88 := fa ?b42_5 a43 w43 88 (hd 6 88 rfl)
  replace e_w := e_w.trans x
  have e_w40 := x
  replace m41 := m41.tr hs rfl; clear hd hs x
  refine guard_cases s88 (fun hq9 => ?_) (fun hq9 => ?_)
  ·
   refine wl_takeG 88 rfl (is_true s88 hq9) ?_
   refine wl_op hr (ok_move (later e_w40 s16)) inferInstance ?_; clear hr; intro a44 w44 x hr hd hs
   revert s88; revert s13; revert s5; refine kp3 hs rfl ?_; intro s5 s13 s88
   clear s16
   have s89 := hd 89 rfl (by decide)
   replace e_w := e_w.trans x
   replace e_w40 := e_w40.trans x
   have e_w43 := x
   replace m41 := m41.tr hs rfl; clear hd hs x
   refine wl_takeG 88 rfl (is_true (later e_w43 s88) hq9) ?_
   have z45 := OwnBA.lt s89
   have l45 := (show (g36 = 0 ∨ w.heap.size < g36) ∧ True from ⟨by omega, trivial⟩)
   have l45_13 := OwnBA.lt (later e_w40 s13)
   refine wl_callwr1 hr (by decide) body17 (c_mended s89 (by simp; omega)) ?_; clear hr; intro a45 w45 hc hu hr hd hs
   have hb : Below w.heap.size w44 w45 := hc.below e_w.size l45.1
   revert s88; revert s13; revert s5; refine kp3 hs rfl ?_; intro s5 s13 s88
   clear s89
   replace s13 := OwnBA.other (later e_w40 s13) hc (by omega)
   have s90 := hd; clear hd
   replace e_w := e_w.below (Nat.le_refl _) hb
   clear e_w40
   clear e_w43
   replace s88 := anyw (w2 := w45) s88
   replace m41 := m41.tr hs rfl
   clear hu hs hc hb
   refine wl_takeG 88 rfl (is_true s88 hq9) ?_
   refine wl_op hr (ok_call1 body10 (c_pkRead (OwnBA.bs s90))) inferInstance ?_; clear hr; intro a46 w46 x hr hd hs
   revert s88; revert s13; revert s5; refine kp3 hs rfl ?_; intro s5 s13 s88
   clear s90
   have s91 := hd 91 rfl (by decide)
   replace e_w := e_w.trans x
   have e_w45 := x
   replace m41 := m41.tr hs rfl; clear hd hs x
   refine wl_takeG 88 rfl (is_true (later e_w45 s88) hq9) ?_
   refine wl_op hr (ok_fieldC (k := 0) 0 3 _ tu30 ⟨_, rfl, rfl, rfl⟩ tu3 rfl s91 (by rfl)) inferInstance ?_; clear hr; intro a47 w47 x hr hd hs
   revert s88; revert s13; revert s5; refine kp3 hs rfl ?_; intro s5 s13 s88
   clear s91
   have s92 := hd 92 rfl (by decide)
   replace e_w := e_w.trans x
   replace e_w45 := e_w45.trans x
   replace m41 := m41.tr hs rfl; clear hd hs x
   refine wl_takeG 88 rfl (is_true (later e_w45 s88) hq9) ?_
   refine wl_op hr (ok_neq s92 (ec a47 (.int .i64 5))) inferInstance ?_; clear hr; intro a48 w48 x hr hd hs
   revert s88; revert s13; revert s5; refine kp3 hs rfl ?_; intro s5 s13 s88
   clear s92
   have s93 := hd 93 rfl (by decide)
   replace e_w := e_w.trans x
   replace e_w45 := e_w45.trans x
   replace m41 := m41.tr hs rfl; clear hd hs x
   refine wl_op hr (ok_and (later e_w45 s88) (G.of hq9 s93)) inferInstance ?_; clear hr; intro a49 w49 x hr hd hs
   revert s13; revert s5; refine kp2 hs rfl ?_; intro s5 s13
   clear s88 s93
   have s94 := hd 94 rfl (by decide)
   replace e_w := e_w.trans x
   replace e_w45 := e_w45.trans x
   replace m41 := m41.tr hs rfl; clear hd hs x
   refine wpList_nil ?_
   refine et ?_
   refine ⟨hr, m41, e_w, ?_, ?_⟩
   · exact (later e_w45 s13)
   · first | exact Is.bool s94 (kinds_p2 (hkp hq9)) | exact Is.bool s94 (by simp)
  ·
   refine wl_skipG 88 rfl hr (is_false s88 hq9) (by decide) ?_; clear hr; intro a50 hr hd hs
   revert s88; revert s13; revert s5; refine kp3 hs rfl ?_; intro s5 s13 s88
   clear s16
   have s89 := hd 89 rfl (by decide)
   replace m41 := m41.tr hs rfl
   clear hd hs
   refine wl_skipG 88 rfl hr (is_false s88 hq9) (by decide) ?_; clear hr; intro a51 hr hd hs
   revert s88; revert s13; revert s5; refine kp3 hs rfl ?_; intro s5 s13 s88
   clear s89
   have s90 := hd 90 rfl (by decide)
   replace m41 := m41.tr hs rfl
   clear hd hs
   refine wl_skipG 88 rfl hr (is_false s88 hq9) (by decide) ?_; clear hr; intro a52 hr hd hs
   revert s88; revert s13; revert s5; refine kp3 hs rfl ?_; intro s5 s13 s88
   clear s90
   have s91 := hd 91 rfl (by decide)
   replace m41 := m41.tr hs rfl
   clear hd hs
   refine wl_skipG 88 rfl hr (is_false s88 hq9) (by decide) ?_; clear hr; intro a53 hr hd hs
   revert s88; revert s13; revert s5; refine kp3 hs rfl ?_; intro s5 s13 s88
   clear s91
   have s92 := hd 92 rfl (by decide)
   replace m41 := m41.tr hs rfl
   clear hd hs
   refine wl_skipG 88 rfl hr (is_false s88 hq9) (by decide) ?_; clear hr; intro a54 hr hd hs
   revert s88; revert s13; revert s5; refine kp3 hs rfl ?_; intro s5 s13 s88
   clear s92
   have s93 := hd 93 rfl (by decide)
   replace m41 := m41.tr hs rfl
   clear hd hs
   refine wl_op hr (ok_and s88 (show G _ (Is (.bool false)) _ _ from G.no hq9 s93)) inferInstance ?_; clear hr; intro a55 w55 x hr hd hs
   revert s13; revert s5; refine kp2 hs rfl ?_; intro s5 s13
   clear s88 s93
   have s94 := hd 94 rfl (by decide)
   replace e_w := e_w.trans x
   replace e_w40 := e_w40.trans x
   replace m41 := m41.tr hs rfl; clear hd hs x
   refine wpList_nil ?_
   refine et ?_
   refine ⟨hr, m41, e_w, ?_, ?_⟩
   · exact (later e_w40 s13)
   · first | exact Is.bool s94 (kinds_p2 (hkp hq9)) | exact Is.bool s94 (by simp)
 intro a41 w41 hI
 clear e_w
 clear hr; obtain ⟨hr, hs, e_w, u13, u94⟩ := hI
 revert s5; refine kp1 hs rfl ?_; intro s5
 clear s4 s13 s16
 have s13 := u13; clear u13
 have s94 := u94; clear u94
 clear hs
 refine wp_cond_split (show _ = _ from s94) (fun hd9 => ?_) (fun hd9 => ?_)
 ·
  cases hd9
 try simp only [decide_eq_true_eq, decide_eq_false_iff_not, Bool.not_eq_true', Bool.not_eq_false', Bool.not_true, Bool.not_false, Bool.and_eq_true, Bool.and_eq_false_iff, Bool.or_eq_true, Bool.or_eq_false_iff, bne_iff_ne, beq_iff_eq, ne_eq, beq_eq_false_iff_ne, bne_eq_false_iff_eq] at hd9
 refine wp_skip ?_
 refine es ?_
 refine wp_reg_pre (l := [_, _]) (rest := [_, _]) 126 [[], [(13, none)]] [?b57_0, ?b57_1] hr ?t57 ?o57 ?_
 case o57 =>
  apply oc0; intro A W hx hf
  exact ok_ownBs [] [] tu22 size5 zero5 rfl rfl (by decide) hx.size (PartsOk.nil)
  apply oc0; intro A W hx hf
  exact ok_movE (a0 := a41) (r0 hf)
  exact onn
 case t57 => exact inferInstance
 clear hr; intro a58 w58 x hr hd hs
 have z_w_w41 := e_w.size
 have l58_13 := OwnBA.lt s13
 have u96 := mv s13 (fa ?b57_1 a58 w58 96 (hd 1 96 rfl))
 revert s13; revert s5; refine kp2 hs rfl ?_; intro s5 s13
 clear s94
 have s96 := u96; clear u96
 have s95 := fa ?b57_0 a58 w58 95 (hd 0 95 rfl)
 obtain ⟨g58_95, q58_95⟩ := OwnB.at s95; clear s95; have n58_95 := OwnBA.lt q58_95
 replace q58_95 := OwnBA.mono q58_95 e_w.size
 have s95 := q58_95; clear q58_95
 replace e_w := e_w.trans x
 have e_w41 := x; clear hd hs x
 have l59 := OwnBA.lt s95
 have l59_13 := OwnBA.lt (later e_w41 s13)
 refine wl_append_bsA hr (by decide) tu22 info5 rfl s95 (OwnBA.bs (later e_w41 s96)) e_w.size (by first | (simp only [List.length_nil, Nat.zero_add, Nat.mul_one]; omega) | (simp; omega)) ?_; clear hr; intro g59 a59 w59 hg59 hc hr hd hs
 have hb := hc.below e_w.size l59.1
 revert s13; revert s5; refine kp2 hs rfl ?_; intro s5 s13
 clear s96 s95
 replace s13 := OwnBA.other (later e_w41 s13) hc (by omega)
 have s97 := hd
 replace e_w := e_w.below (Nat.le_refl _) hb
 clear e_w41
 clear hd hs hb hc
 refine wl_op hr (ok_assign s97) inferInstance ?_; clear hr; intro a60 w60 x hr hd hs
 revert s13; revert s5; refine kp2 hs rfl ?_; intro s5 s13
 clear s97
 have s17 := hd 17 rfl (by decide)
 replace e_w := e_w.trans x
 have e_w59 := x; clear hd hs x
 refine wpList_nil ?_
 replace s17 := OwnBA.cast s17 (show _ = MK from List.nil_append _)
 refine es ?_
 refine wp_reg_pre (l := [_, _, _, _, _, _]) (rest := [_]) 126 [[(17, none)], [(17, none)], [(99, some 1)], [(100, some 2)], [(101, some 3)], [(98, some 0)]] [?b61_0, ?b61_1, ?b61_2, ?b61_3, ?b61_4, ?b61_5] hr ?t61 ?o61 ?_
 case o61 =>
  apply oc0; intro A W hx hf
  exact ok_movE (a0 := a60) (r0 hf)
  apply oc0; intro A W hx hf
  exact ok_movE (a0 := a60) (r0 hf)
  apply oc0; intro A W hx hf
  exact ok_index_bs (20) tu22 size5 (OwnBA.bs (p1 s17 hx (q0 ?b61_1 A W 99 hf))) (ec A (.int .i64 20)) (by first | omega | (simp; omega))
  apply oc0; intro A W hx hf
  exact ok_loadp tu5 rfl (q0 ?b61_2 A W 100 hf)
  apply oc0; intro A W hx hf
  exact ok_orb (q0 ?b61_3 A W 101 hf) (ec A (.int .u8 32))
  apply oc0; intro A W hx hf
  exact ok_indexA (20) tu22 size5 (p1 s17 hx (q0 ?b61_0 A W 98 hf)) (ec A (.int .i64 20)) (by first | omega | (simp; omega))
  exact onn
 case t61 => exact inferInstance
 clear hr; intro a62 w62 x hr hd hs
 revert s17; revert s13; revert s5; refine kp3 hs rfl ?_; intro s5 s13 s17
 have s102 := fa ?b61_4 a62 w62 102 (hd 4 102 rfl)
 have s103 := fa ?b61_5 a62 w62 103 (hd 5 103 rfl)
 replace e_w := e_w.trans x
 replace e_w59 := e_w59.trans x
 have e_w60 := x; clear hd hs x
 have z63 := EpA.lt s103
 have l63 := (show (g59 = 0 ∨ w.heap.size < g59) ∧ True from ⟨by omega, trivial⟩)
 have l63_13 := OwnBA.lt (later e_w59 s13)
 refine wl_storeA hr size5 s103 (ByteIs.of s102 (by exact set20b c20)) ?_; clear hr; intro a63 w63 hc hu hr hs
 have hb : Below w.heap.size w62 w63 := hc.below e_w.size l63.1
 revert s17; revert s13; revert s5; refine kp3 hs rfl ?_; intro s5 s13 s17
 clear s102 s103
 replace s13 := OwnBA.other (later e_w59 s13) hc (by omega)
 replace s17 := hu _ _ _ (later e_w60 s17)
 replace e_w := e_w.below (Nat.le_refl _) hb
 clear e_w59
 clear e_w60
 clear hu hs hc hb
 refine wpList_nil ?_
 replace s17 := OwnBA.cast s17 (show _ = (MK).set 20 96 from set20 c20)
 refine es ?_
 refine wp_reg_pre (l := [_, _]) (rest := [_, _]) 126 [[], [(13, none)]] [?b64_0, ?b64_1] hr ?t64 ?o64 ?_
 case o64 =>
  apply oc0; intro A W hx hf
  exact ok_ownBs [] [] tu22 size5 zero5 rfl rfl (by decide) hx.size (PartsOk.nil)
  apply oc0; intro A W hx hf
  exact ok_movE (a0 := a63) (r0 hf)
  exact onn
 case t64 => exact inferInstance
 clear hr; intro a65 w65 x hr hd hs
 have z_w_w63 := e_w.size
 have l65_13 := OwnBA.lt s13
 have l65_17 := OwnBA.lt s17
 have u105 := mv s13 (fa ?b64_1 a65 w65 105 (hd 1 105 rfl))
 revert s17; revert s5; refine kp2 hs rfl ?_; intro s5 s17
 clear s13
 have s105 := u105; clear u105
 have s104 := fa ?b64_0 a65 w65 104 (hd 0 104 rfl)
 obtain ⟨g65_104, q65_104⟩ := OwnB.at s104; clear s104; have n65_104 := OwnBA.lt q65_104
 replace q65_104 := OwnBA.mono q65_104 e_w.size
 have s104 := q65_104; clear q65_104
 replace e_w := e_w.trans x
 have e_w63 := x; clear hd hs x
 have l66 := OwnBA.lt s104
 have l66_17 := OwnBA.lt (later e_w63 s17)
 refine wl_append_bsA hr (by decide) tu22 info5 rfl s104 (OwnBA.bs (later e_w63 s105)) e_w.size (by first | (simp only [List.length_nil, Nat.zero_add, Nat.mul_one]; omega) | (simp; omega)) ?_; clear hr; intro g66 a66 w66 hg66 hc hr hd hs
 have hb := hc.below e_w.size l66.1
 revert s17; revert s5; refine kp2 hs rfl ?_; intro s5 s17
 clear s105 s104
 replace s17 := OwnBA.other (later e_w63 s17) hc (by omega)
 have s106 := hd
 replace e_w := e_w.below (Nat.le_refl _) hb
 clear e_w63
 clear hd hs hb hc
 refine wl_op hr (ok_assign s106) inferInstance ?_; clear hr; intro a67 w67 x hr hd hs
 revert s17; revert s5; refine kp2 hs rfl ?_; intro s5 s17
 clear s106
 have s18 := hd 18 rfl (by decide)
 replace e_w := e_w.trans x
 have e_w66 := x; clear hd hs x
 refine wpList_nil ?_
 replace s18 := OwnBA.cast s18 (show _ = MK from List.nil_append _)
 refine es ?_
 refine wp_reg_pre (l := [_, _, _, _, _, _, _, _]) (rest := [_]) 126 [[(18, none)], [(18, none)], [(108, some 1)], [(109, some 2)], [(5, none)], [(111, some 4)], [(110, some 3), (112, some 5)], [(107, some 0)]] [?b68_0, ?b68_1, ?b68_2, ?b68_3, ?b68_4, ?b68_5, ?b68_6, ?b68_7] hr ?t68 ?o68 ?_
 case o68 =>
  apply oc0; intro A W hx hf
  exact ok_movE (a0 := a67) (r0 hf)
  apply oc0; intro A W hx hf
  exact ok_movE (a0 := a67) (r0 hf)
  apply oc0; intro A W hx hf
  exact ok_index_bs (22) tu22 size5 (OwnBA.bs (p1 s18 hx (q0 ?b68_1 A W 108 hf))) (ec A (.int .i64 22)) (by first | omega | (simp; omega))
  apply oc0; intro A W hx hf
  exact ok_loadp tu5 rfl (q0 ?b68_2 A W 109 hf)
  apply oc0; intro A W hx hf
  exact ok_movE (a0 := a67) (r0 hf)
  apply oc0; intro A W hx hf
  exact ok_orb (p2 s5 e_w hx (q0 ?b68_4 A W 111 hf)) (ec A (.int .u8 1))
  apply oc0; intro A W hx hf
  exact ok_xorb (q0 ?b68_3 A W 110 hf) (q1 ?b68_5 A W 112 hf)
  apply oc0; intro A W hx hf
  exact ok_indexA (22) tu22 size5 (p1 s18 hx (q0 ?b68_0 A W 107 hf)) (ec A (.int .i64 22)) (by first | omega | (simp; omega))
  exact onn
 case t68 => exact inferInstance
 clear hr; intro a69 w69 x hr hd hs
 revert s18; revert s17; refine kp2 hs rfl ?_; intro s17 s18
 clear s5
 have s113 := fa ?b68_6 a69 w69 113 (hd 6 113 rfl)
 have s114 := fa ?b68_7 a69 w69 114 (hd 7 114 rfl)
 replace e_w := e_w.trans x
 replace e_w66 := e_w66.trans x
 have e_w67 := x; clear hd hs x
 have z70 := EpA.lt s114
 have l70 := (show (g66 = 0 ∨ w.heap.size < g66) ∧ True from ⟨by omega, trivial⟩)
 have l70_17 := OwnBA.lt (later e_w66 s17)
 refine wl_storeA hr size5 s114 (ByteIs.of s113 (by exact set22b c22)) ?_; clear hr; intro a70 w70 hc hu hr hs
 have hb : Below w.heap.size w69 w70 := hc.below e_w.size l70.1
 revert s18; revert s17; refine kp2 hs rfl ?_; intro s17 s18
 clear s113 s114
 replace s17 := OwnBA.other (later e_w66 s17) hc (by omega)
 replace s18 := hu _ _ _ (later e_w67 s18)
 replace e_w := e_w.below (Nat.le_refl _) hb
 clear e_w66
 clear e_w67
 clear hu hs hc hb
 refine wpList_nil ?_
 replace s18 := OwnBA.cast s18 (show _ = (MK).set 22 (b8 (bitXor .u8 ((64 : UInt8).toNat : Int) (bitOr .u8 (t9.toNat : Int) ((1 : UInt8).toNat : Int)))) from set22 c22)
 refine es ?_
 refine wp_reg_pre (l := [_]) (rest := [_, _, _, _, _, _, _, _, _, _, _]) 126 [[(17, none)]] [?b71_0] hr ?t71 ?o71 ?_
 case o71 =>
  apply oc0; intro A W hx hf
  exact ok_movE (a0 := a70) (r0 hf)
  exact onn
 case t71 => exact inferInstance
 clear hr; intro a72 w72 x hr hd hs
 have u115 := mv s17 (fa ?b71_0 a72 w72 115 (hd 0 115 rfl))
 revert s18; refine kp1 hs rfl ?_; intro s18
 clear s17
 have s115 := u115; clear u115
 replace e_w := e_w.trans x
 have e_w70 := x; clear hd hs x
 have z73 := OwnBA.lt (later e_w70 s115)
 have l73 := (show (g59 = 0 ∨ w.heap.size < g59) ∧ True from ⟨by omega, trivial⟩)
 have l73_18 := OwnBA.lt (later e_w70 s18)
 refine wl_callwr1 hr (by decide) body17 (c_mended (later e_w70 s115) (by simp; omega)) ?_; clear hr; intro a73 w73 hc hu hr hd hs
 have hb : Below w.heap.size w72 w73 := hc.below e_w.size l73.1
 revert s18; refine kp1 hs rfl ?_; intro s18
 clear s115
 replace s18 := OwnBA.other (later e_w70 s18) hc (by omega)
 have s116 := hd; clear hd
 replace e_w := e_w.below (Nat.le_refl _) hb
 clear e_w70
 clear hu hs hc hb
 refine wl_op hr (ok_call1 body10 (c_pkRead (OwnBA.bs s116))) inferInstance ?_; clear hr; intro a74 w74 x hr hd hs
 revert s18; refine kp1 hs rfl ?_; intro s18
 clear s116
 have s117 := hd 117 rfl (by decide)
 replace e_w := e_w.trans x
 have e_w73 := x; clear hd hs x
 refine wl_op hr (ok_fieldC (k := 0) 0 3 _ tu30 ⟨_, rfl, rfl, rfl⟩ tu3 rfl s117 (by rfl)) inferInstance ?_; clear hr; intro a75 w75 x hr hd hs
 revert s18; refine kp1 hs rfl ?_; intro s18
 clear s117
 have s118 := hd 118 rfl (by decide)
 replace e_w := e_w.trans x
 replace e_w73 := e_w73.trans x; clear hd hs x
 refine wl_op hr (ok_eql s118 (ec a75 (.int .i64 4))) inferInstance ?_; clear hr; intro a76 w76 x hr hd hs
 revert s18; refine kp1 hs rfl ?_; intro s18
 clear s118
 have s119 := hd 119 rfl (by decide)
 replace e_w := e_w.trans x
 replace e_w73 := e_w73.trans x; clear hd hs x
 refine wl_op hr (ok_move s119) inferInstance ?_; clear hr; intro a77 w77 x hr hd hs
 revert s18; refine kp1 hs rfl ?_; intro s18
 clear s119
 have s120 := hd 120 rfl (by decide)
 replace e_w := e_w.trans x
 replace e_w73 := e_w73.trans x; clear hd hs x
 refine guard_cases s120 (fun hq9 => ?_) (fun hq9 => ?_)
 ·
  refine wl_takeG 120 rfl (is_true s120 hq9) ?_
  refine wl_op hr (ok_move (later e_w73 s18)) inferInstance ?_; clear hr; intro a78 w78 x hr hd hs
  revert s120; refine kp1 hs rfl ?_; intro s120
  clear s18
  have s121 := hd 121 rfl (by decide)
  replace e_w := e_w.trans x
  clear e_w73
  have e_w77 := x; clear hd hs x
  refine wl_takeG 120 rfl (is_true (later e_w77 s120) hq9) ?_
  refine wl_op hr (ok_call1 body10 (c_pkRead (OwnBA.bs s121))) inferInstance ?_; clear hr; intro a79 w79 x hr hd hs
  revert s120; refine kp1 hs rfl ?_; intro s120
  clear s121
  have s122 := hd 122 rfl (by decide)
  replace e_w := e_w.trans x
  replace e_w77 := e_w77.trans x; clear hd hs x
  refine wl_takeG 120 rfl (is_true (later e_w77 s120) hq9) ?_
  refine wl_op hr (ok_fieldC (k := 0) 0 3 _ tu30 ⟨_, rfl, rfl, rfl⟩ tu3 rfl s122 (by rfl)) inferInstance ?_; clear hr; intro a80 w80 x hr hd hs
  revert s120; refine kp1 hs rfl ?_; intro s120
  clear s122
  have s123 := hd 123 rfl (by decide)
  replace e_w := e_w.trans x
  replace e_w77 := e_w77.trans x; clear hd hs x
  refine wl_takeG 120 rfl (is_true (later e_w77 s120) hq9) ?_
  refine wl_op hr (ok_eql s123 (ec a80 (.int .i64 3))) inferInstance ?_; clear hr; intro a81 w81 x hr hd hs
  revert s120; refine kp1 hs rfl ?_; intro s120
  clear s123
  have s124 := hd 124 rfl (by decide)
  replace e_w := e_w.trans x
  replace e_w77 := e_w77.trans x; clear hd hs x
  refine wl_op hr (ok_and (later e_w77 s120) (G.of hq9 s124)) inferInstance ?_; clear hr; intro a82 w82 x hr hd hs
  clear s120 s124
  have s125 := hd 125 rfl (by decide)
  replace e_w := e_w.trans x
  clear e_w77; clear hd hs x
  refine wl_op hr (ok_assign s125) inferInstance ?_; clear hr; intro a83 w83 x hr hd hs
  clear s125
  have s12 := hd 12 rfl (by decide)
  replace e_w := e_w.trans x; clear hd hs x
  refine wpList_nil ?_
  refine et ?_
  refine wp_ret ?_
  refine ret_tmp Try.results7 hr e_w ?_
  first | with_reducible exact s12 | exact Is.bool s12 (by rw [hmk]; rfl) | (exfalso; rw [hkt] at hq9; revert hq9; decide) | exact Is.bool s12 (by rw [hkt, hkn]; rfl)
 ·
  refine wl_skipG 120 rfl hr (is_false s120 hq9) (by decide) ?_; clear hr; intro a84 hr hd hs
  revert s120; refine kp1 hs rfl ?_; intro s120
  clear s18
  have s121 := hd 121 rfl (by decide)
  clear hd hs
  refine wl_skipG 120 rfl hr (is_false s120 hq9) (by decide) ?_; clear hr; intro a85 hr hd hs
  revert s120; refine kp1 hs rfl ?_; intro s120
  clear s121
  have s122 := hd 122 rfl (by decide)
  clear hd hs
  refine wl_skipG 120 rfl hr (is_false s120 hq9) (by decide) ?_; clear hr; intro a86 hr hd hs
  revert s120; refine kp1 hs rfl ?_; intro s120
  clear s122
  have s123 := hd 123 rfl (by decide)
  clear hd hs
  refine wl_skipG 120 rfl hr (is_false s120 hq9) (by decide) ?_; clear hr; intro a87 hr hd hs
  revert s120; refine kp1 hs rfl ?_; intro s120
  clear s123
  have s124 := hd 124 rfl (by decide)
  clear hd hs
  refine wl_op hr (ok_and s120 (show G _ (Is (.bool false)) _ _ from G.no hq9 s124)) inferInstance ?_; clear hr; intro a88 w88 x hr hd hs
  clear s120 s124
  have s125 := hd 125 rfl (by decide)
  replace e_w := e_w.trans x
  clear e_w73; clear hd hs x
  refine wl_op hr (ok_assign s125) inferInstance ?_; clear hr; intro a89 w89 x hr hd hs
  clear s125
  have s12 := hd 12 rfl (by decide)
  replace e_w := e_w.trans x; clear hd hs x
  refine wpList_nil ?_
  refine et ?_
  refine wp_ret ?_
  refine ret_tmp Try.results7 hr e_w ?_
  first | with_reducible exact s12 | exact Is.bool s12 (by rw [hmk]; rfl) | (exfalso; rw [hkt] at hq9; revert hq9; decide) | exact Is.bool s12 (by rw [hkt, hkn]; rfl)

end Go.Proofs.Ytpjpfmnnefgnbaa
