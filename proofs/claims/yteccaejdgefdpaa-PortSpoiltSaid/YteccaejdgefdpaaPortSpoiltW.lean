import Derived.Test.YteccaejdgefdpaaA10
import Derived.Test.YteccaejdgefdpaaU10
namespace Go.Proofs.Yteccaejdgefdpaa
open Go.RowKit
set_option linter.unusedVariables false
set_option maxRecDepth 4000
theorem law_PortSpoilt {x0 x1 x2 x3 x4 x5 : Value} {w : World} {Sa Da : Adr} {u : Bool} {l : List UInt8} {z : Int} {c : UInt8} (h0 : (Is (AdrV Sa)) x0 w) (h1 : (Is (AdrV Da)) x1 w) (h2 : (Is (.bool u)) x2 w) (h3 : (Bs l) x3 w) (h4 : (Is (.int .u16 z)) x4 w) (h5 : (ByteIs c) x5 w) (hA : Sa.b.length = 16) (hD : Da.b.length = 16) (hz : 0 ≤ z ∧ z ≤ 65535) :
    Calls Try.prog 6 #[x0, x1, x2, x3, x4, x5] w (Ret (Is (.bool true)) w) := by
 refine enter Try.func6 rfl Try.ntmps6 (k := 6) rfl (by decide) (fun a0 hr hargs => ?_)
 have s0 := sarg h0 (hargs 0 (by decide))
 have s1 := sarg h1 (hargs 1 (by decide))
 have s2 := sarg h2 (hargs 2 (by decide))
 have s3 := sarg h3 (hargs 3 (by decide))
 have s4 := sarg h4 (hargs 4 (by decide))
 have s5 := sarg h5 (hargs 5 (by decide))
 clear hargs
 refine wp_seq ?_
 refine wp_reg 122 [[(0, none)], [(1, none)], []] [?b1_0, ?b1_1, ?b1_2] mixed (by kernel_rfl) (by kernel_rfl) hr ?t1 ?o1 ?_
 case o1 =>
  refine oc0 (fun A W hx hf => ?_) ?_
  exact ok_boxS [[.bool Sa.six], Sa.b.map byteV] [1, 16] (Is.conv (o1 s0 hx (r0 hf)) (adr_seg Sa).symm) (by simp [*]) hx.size
  refine oc0 (fun A W hx hf => ?_) ?_
  exact ok_boxS [[.bool Da.six], Da.b.map byteV] [1, 16] (Is.conv (o1 s1 hx (r0 hf)) (adr_seg Da).symm) (by simp [*]) hx.size
  refine oc0 (fun A W hx hf => ?_) ?_
  exact ok_assignc
  exact OpsOk.nil
 case t1 => exact inferInstance
 clear hr; intro a2 w2 x hr hd hs
 revert s2 s3 s4 s5; refine kp4 hs rfl ?_; intro s2 s3 s4 s5
 clear s0 s1
 have s6 := fa ?b1_0 a2 w2 6 (hd 0 6 rfl)
 have s7 := fa ?b1_1 a2 w2 7 (hd 1 7 rfl)
 obtain ⟨g2_6, q2_6⟩ := PxN.at s6; clear s6; have n2_6 := PxS.lt q2_6
 have s6 := q2_6; clear q2_6
 obtain ⟨g2_7, q2_7⟩ := PxN.at s7; clear s7; have n2_7 := PxS.lt q2_7
 have s7 := q2_7; clear q2_7
 have e_w := x
 clear hd hs x
 refine exit_then ?_
 refine wp_seq ?_
 refine wp_seq ?_
 refine wp_reg 122 [[], [(18, some 0)], [(19, some 1)], [(6, none), (20, some 2)], [(7, none), (20, some 2)], [(2, none), (20, some 2)], [(3, none), (20, some 2)], [(21, some 3), (22, some 4), (23, some 5), (24, some 6), (20, some 2)], [(25, some 7), (20, some 2)], [(20, some 2), (26, some 8)], [(27, some 9)], [(5, none), (28, some 10)], [(29, some 11), (28, some 10)], [(28, some 10), (30, some 12)]] [?b3_0, ?b3_1, ?b3_1, ?b3_3, ?b3_4, ?b3_5, ?b3_6, ?b3_7, ?b3_8, ?b3_9, ?b3_9, ?b3_11, ?b3_12, ?b3_13] mixed (by kernel_rfl) (by kernel_rfl) hr ?t3 ?o3 ?_
 case o3 =>
  refine oc0 (fun A W hx hf => ?_) ?_
  exact ok_call0 body9 (c_awake10 )
  refine oc0 (fun A W hx hf => ?_) ?_
  exact ok_not (q0 ?b3_0 A W 18 hf)
  refine oc0 (fun A W hx hf => ?_) ?_
  exact ok_move (q0 ?b3_1 A W 19 hf)
  refine ocg 20 ?_ (fun A W hx hf => ?_) ?_
  rfl
  exact gd_f (q1 ?b3_1 A W 20 hf) (fun hc => ok_loadAggS 2 Try.underlying35 rfl size35 (o1 s6 hx (r0 hf)) rfl)
  refine ocg 20 ?_ (fun A W hx hf => ?_) ?_
  rfl
  exact gd_f (q1 ?b3_1 A W 20 hf) (fun hc => ok_loadAggS 2 Try.underlying35 rfl size35 (o1 s7 hx (r0 hf)) rfl)
  refine ocg 20 ?_ (fun A W hx hf => ?_) ?_
  rfl
  exact gd_f (q1 ?b3_1 A W 20 hf) (fun hc => ok_movE (a0 := a2) (r0 hf))
  refine ocg 20 ?_ (fun A W hx hf => ?_) ?_
  rfl
  exact gd_f (q1 ?b3_1 A W 20 hf) (fun hc => ok_movE (a0 := a2) (r0 hf))
  refine ocg 20 ?_ (fun A W hx hf => ?_) ?_
  rfl
  exact gd_f (q4 ?b3_1 A W 20 hf) (fun hc => ok_call4 body14 (c_fit (Is.conv (G.get (q0 ?b3_3 A W 21 hf) hc) (adr_seg Sa)) (Is.conv (G.get (q1 ?b3_4 A W 22 hf) hc) (adr_seg Da)) (p2 s2 e_w hx (G.get (q2 ?b3_5 A W 23 hf) hc)) (p2 s3 e_w hx (G.get (q3 ?b3_6 A W 24 hf) hc)) (by assumption) (by assumption)))
  refine ocg 20 ?_ (fun A W hx hf => ?_) ?_
  rfl
  exact gd_f (q1 ?b3_1 A W 20 hf) (fun hc => ok_not (G.get (q0 ?b3_7 A W 25 hf) hc))
  refine oc0 (fun A W hx hf => ?_) ?_
  exact ok_or (q0 ?b3_1 A W 20 hf) (q1 ?b3_8 A W 26 hf)
  refine oc0 (fun A W hx hf => ?_) ?_
  exact ok_move (q0 ?b3_9 A W 27 hf)
  refine ocg 28 ?_ (fun A W hx hf => ?_) ?_
  rfl
  exact gd_f (q1 ?b3_9 A W 28 hf) (fun hc => ok_movE (a0 := a2) (r0 hf))
  refine ocg 28 ?_ (fun A W hx hf => ?_) ?_
  rfl
  exact gd_f (q1 ?b3_9 A W 28 hf) (fun hc => ok_eql (p2 s5 e_w hx (G.get (q0 ?b3_11 A W 29 hf) hc)) (ec A (.int .u8 0)))
  refine oc0 (fun A W hx hf => ?_) ?_
  exact ok_or (q0 ?b3_9 A W 28 hf) (q1 ?b3_12 A W 30 hf)
  exact OpsOk.nil
 case t3 => exact inferInstance
 clear hr; intro a4 w4 x hr hd hs
 revert s2 s3 s4 s5 s6 s7; refine kp6 hs rfl ?_; intro s2 s3 s4 s5 s6 s7
 have s31 := fa ?b3_13 a4 w4 31 (hd 13 31 rfl)
 replace e_w := e_w.trans x
 have e_w2 := x
 clear hd hs x
 refine exit_then ?_
 refine wp_cond_split (show _ = _ from s31) (fun hg => ?_) (fun hg => ?_)
 · skip
   skip
   refine wp_seq ?_
   refine wp_reg 122 [[], [(32, some 0)]] [?b6_0, ?b6_0] mixed (by kernel_rfl) (by kernel_rfl) hr ?t6 ?o6 ?_
   case o6 =>
    refine oc0 (fun A W hx hf => ?_) ?_
    exact ok_call0 body9 (c_awake10 )
    refine oc0 (fun A W hx hf => ?_) ?_
    exact ok_assign (q0 ?b6_0 A W 32 hf)
    exact OpsOk.nil
   case t6 => exact inferInstance
   clear hr; intro a7 w7 x hr hd hs
   clear s2 s3 s4 s5 s6 s7 s31
   have s12 := fa ?b6_0 a7 w7 12 (hd 1 12 rfl)
   replace e_w := e_w.trans x
   clear e_w2
   clear hd hs x
   refine exit_then ?_
   refine wp_ret ?_
   refine then_ret ?_
   refine ret_tmp Try.results6 hr e_w ?_
   first | with_reducible exact s12 | exact Is.bool s12 (spo10_zero (by omega) (by omega) hz9) | exact Is.bool s12 (spo10_end (by omega) (by omega) hz9 g3)
 · skip
   obtain ⟨⟨hsix, hok, hl⟩, hcz⟩ := spo10_guard hg
   have hfl := fill_len (Sa := Sa) (Da := Da) hok
   have hfr := fill_read (Sa := Sa) (Da := Da) hok
   obtain ⟨y1, y2, y3, y4⟩ := portRead_ok hok
   obtain ⟨T, hT⟩ : ∃ T : Nat, (portRead (protoI u) l).1.total = (T : Int) := ⟨(portRead (protoI u) l).1.total.toNat, by omega⟩
   obtain ⟨K, hK, hKl⟩ := tmod_lt (a := z) (n := T) hz.1 (by omega)
   refine wp_skip ?_
   refine exit_then ?_
   refine wp_seq ?_
   refine wp_reg 122 [[(2, none)], [(33, some 0)], [(34, some 1)]] [?b8_0, ?b8_1, ?b8_1] mixed (by kernel_rfl) (by kernel_rfl) hr ?t8 ?o8 ?_
   case o8 =>
    refine oc0 (fun A W hx hf => ?_) ?_
    exact ok_movE (a0 := a4) (r0 hf)
    refine oc0 (fun A W hx hf => ?_) ?_
    exact ok_call1 body16 (c_proto (p2 s2 e_w hx (q0 ?b8_0 A W 33 hf)))
    refine oc0 (fun A W hx hf => ?_) ?_
    exact ok_assign (q0 ?b8_1 A W 34 hf)
    exact OpsOk.nil
   case t8 => exact inferInstance
   clear hr; intro a9 w9 x hr hd hs
   revert s2 s3 s4 s5 s6 s7; refine kp6 hs rfl ?_; intro s2 s3 s4 s5 s6 s7
   clear s31
   have s13 := fa ?b8_1 a9 w9 13 (hd 2 13 rfl)
   replace e_w := e_w.trans x
   replace e_w2 := e_w2.trans x
   clear hd hs x
   refine exit_then ?_
   refine wp_seq ?_
   refine wp_reg 122 [[(6, none)], [(7, none)], [(13, none)], [(3, none)], [(35, some 0), (36, some 1), (37, some 2), (38, some 3)], [(39, some 4)]] [?b10_0, ?b10_1, ?b10_2, ?b10_3, ?b10_4, ?b10_4] mixed (by kernel_rfl) (by kernel_rfl) hr ?t10 ?o10 ?_
   case o10 =>
    refine oc0 (fun A W hx hf => ?_) ?_
    exact ok_loadAggS 2 Try.underlying35 rfl size35 (o2 s6 e_w2 hx (r0 hf)) rfl
    refine oc0 (fun A W hx hf => ?_) ?_
    exact ok_loadAggS 2 Try.underlying35 rfl size35 (o2 s7 e_w2 hx (r0 hf)) rfl
    refine oc0 (fun A W hx hf => ?_) ?_
    exact ok_movE (a0 := a9) (r0 hf)
    refine oc0 (fun A W hx hf => ?_) ?_
    exact ok_movE (a0 := a9) (r0 hf)
    refine oc0 (fun A W hx hf => ?_) ?_
    exact ok_call4 body19 (c_pFill (Is.conv (q0 ?b10_0 A W 35 hf) (adr_seg Sa)) (Is.conv (q1 ?b10_1 A W 36 hf) (adr_seg Da)) (p1 s13 hx (q2 ?b10_2 A W 37 hf)) (p2 s3 e_w hx (q3 ?b10_3 A W 38 hf)) (by assumption) (by assumption) (by assumption) (by omega) hx.size)
    refine oc0 (fun A W hx hf => ?_) ?_
    exact ok_assign (q0 ?b10_4 A W 39 hf)
    exact OpsOk.nil
   case t10 => exact inferInstance
   clear hr; intro a11 w11 x hr hd hs
   have z_w_w9 := e_w.size
   have z_w2_w9 := e_w2.size
   have l11_6 := PxS.lt (later e_w2 s6)
   have l11_7 := PxS.lt (later e_w2 s7)
   revert s2 s3 s4 s5 s6 s7; refine kp6 hs rfl ?_; intro s2 s3 s4 s5 s6 s7
   revert s13; refine kp1 hs rfl ?_; intro s13
   have s14 := fa ?b10_4 a11 w11 14 (hd 5 14 rfl)
   obtain ⟨g11_14, q11_14⟩ := OwnB.at s14; clear s14; have n11_14 := OwnBA.lt q11_14
   replace q11_14 := OwnBA.mono q11_14 e_w.size
   have s14 := q11_14; clear q11_14
   replace e_w := e_w.trans x
   replace e_w2 := e_w2.trans x
   have e_w9 := x
   clear hd hs x
   refine exit_then ?_
   refine wp_seq ?_
   refine wp_reg_pre (l := [_, _, _, _, _, _, _]) (rest := [_, _]) 122 [[(13, none)], [(14, none)], [(41, some 0), (42, some 1)], [(43, some 2)], [(40, some 3)], [(40, some 3)], []] [?b12_0, ?b12_1, ?b12_2, ?b12_2, ?b12_4, ?b12_5, ?b12_6] (by kernel_rfl) (by kernel_rfl) hr ?t12 ?o12 ?_
   case o12 =>
    refine oc0 (fun A W hx hf => ?_) ?_
    exact ok_movE (a0 := a11) (r0 hf)
    refine oc0 (fun A W hx hf => ?_) ?_
    exact ok_movE (a0 := a11) (r0 hf)
    refine oc0 (fun A W hx hf => ?_) ?_
    exact ok_call2 body10 (c_pRead (p2 s13 e_w9 hx (q0 ?b12_0 A W 41 hf)) (OwnBA.bs (p1 s14 hx (q1 ?b12_1 A W 42 hf))))
    refine oc0 (fun A W hx hf => ?_) ?_
    exact ok_move (q0 ?b12_2 A W 43 hf)
    refine oc0 (fun A W hx hf => ?_) ?_
    exact ok_ext0 (q0 ?b12_2 A W 40 hf)
    refine oc0 (fun A W hx hf => ?_) ?_
    exact ok_ext1 (q0 ?b12_2 A W 40 hf)
    refine oc0 (fun A W hx hf => ?_) ?_
    exact ok_allocS (portS port0) [1, 1, 1, 1, 1] zerov25 (by rfl) (by rfl) hx.size
    exact OpsOk.nil
   case t12 => exact inferInstance
   clear hr; intro a13 w13 x hr hd hs
   have z_w_w11 := e_w.size
   have z_w2_w11 := e_w2.size
   have z_w9_w11 := e_w9.size
   have l13_6 := PxS.lt (later e_w2 s6)
   have l13_7 := PxS.lt (later e_w2 s7)
   have l13_14 := OwnBA.lt s14
   revert s2 s3 s4 s5 s6 s7; refine kp6 hs rfl ?_; intro s2 s3 s4 s5 s6 s7
   revert s13 s14; refine kp2 hs rfl ?_; intro s13 s14
   have s44 := fa ?b12_4 a13 w13 44 (hd 4 44 rfl)
   have s45 := fa ?b12_5 a13 w13 45 (hd 5 45 rfl)
   have s15 := fa ?b12_6 a13 w13 15 (hd 6 15 rfl)
   obtain ⟨g13_15, q13_15⟩ := PxN.at s15; clear s15; have n13_15 := PxS.lt q13_15
   replace q13_15 := PxS.mono q13_15 e_w.size
   have s15 := q13_15; clear q13_15
   replace e_w := e_w.trans x
   replace e_w2 := e_w2.trans x
   replace e_w9 := e_w9.trans x
   have e_w11 := x
   clear hd hs x
   have z14 := PxS.lt s15
   have l14 := (show (g13_15 = 0 ∨ w.heap.size < g13_15) ∧ True from ⟨by omega, trivial⟩)
   have l14_6 := PxS.lt (later e_w2 s6)
   have l14_7 := PxS.lt (later e_w2 s7)
   have l14_14 := OwnBA.lt (later e_w11 s14)
   refine wl_storeSm (portS (portRead (protoI u) (pFill Sa Da (protoI u) l)).1) hr size25 s15 s44 (by rfl) (by exact port_one) rfl ?_; clear hr; intro a14 w14 hc hu hr hs
   have hb : Below w.heap.size w13 w14 := hc.below e_w.size l14.1
   revert s2 s3 s4 s5 s6 s7; refine kp6 hs rfl ?_; intro s2 s3 s4 s5 s6 s7
   revert s13 s14 s45 s15; refine kp4 hs rfl ?_; intro s13 s14 s45 s15
   clear s44
   replace s6 := PxS.other (later e_w2 s6) hc (by omega)
   replace s7 := PxS.other (later e_w2 s7) hc (by omega)
   replace s14 := OwnBA.other (later e_w11 s14) hc (by omega)
   replace s15 := hu _ _ _ s15
   try simp only [List.set_cons_zero, List.set_cons_succ] at s15
   replace e_w := e_w.below (Nat.le_refl _) hb
   clear e_w2
   clear e_w9
   clear e_w11
   replace s13 := anyw (w2 := w14) s13
   replace s45 := anyw (w2 := w14) s45
   clear hu hs hc hb
   refine wl_op hr (ok_assign s45) inferInstance ?_; clear hr; intro a15 w15 x hr hd hs
   revert s2 s3 s4 s5 s6 s7; refine kp6 hs rfl ?_; intro s2 s3 s4 s5 s6 s7
   revert s14 s15 s13; refine kp3 hs rfl ?_; intro s14 s15 s13
   clear s45
   replace e_w := e_w.trans x
   have e_w14 := x
   clear hd hs x
   refine wpList_nil ?_
   replace s15 := PxS.cast s15 (show _ = portS ⟨(portRead (protoI u) l).1.sport, (portRead (protoI u) l).1.dport, (portRead (protoI u) l).1.flags, (portRead (protoI u) l).1.head, (T : Int)⟩ from by rw [hfr, ← hT])
   refine exit_then ?_
   refine wp_seq ?_
   refine wp_seq ?_
   refine wp_reg 122 [[(15, none)], [(46, some 0)], [(47, some 1)], [(48, some 2)], [(15, none), (49, some 3)], [(50, some 4), (49, some 3)], [(14, none), (49, some 3)], [(52, some 6), (49, some 3)], [(51, some 5), (53, some 7), (49, some 3)], [(49, some 3), (54, some 8)], [(55, some 9)], [(14, none), (56, some 10)], [(57, some 11), (56, some 10)], [(3, none), (56, some 10)], [(59, some 13), (56, some 10)], [(58, some 12), (60, some 14), (56, some 10)], [(56, some 10), (61, some 15)]] [?b16_0, ?b16_1, ?b16_2, ?b16_2, ?b16_4, ?b16_5, ?b16_6, ?b16_7, ?b16_8, ?b16_9, ?b16_9, ?b16_11, ?b16_12, ?b16_13, ?b16_14, ?b16_15, ?b16_16] mixed (by kernel_rfl) (by kernel_rfl) hr ?t16 ?o16 ?_
   case o16 =>
    refine oc0 (fun A W hx hf => ?_) ?_
    exact ok_fieldS 4 Try.underlying25 (k := 4) rfl size3 rfl (o2 s15 e_w14 hx (r0 hf)) rfl
    refine oc0 (fun A W hx hf => ?_) ?_
    exact ok_loadS Try.underlying3 rfl (q0 ?b16_0 A W 46 hf) rfl
    refine oc0 (fun A W hx hf => ?_) ?_
    exact ok_lss (q0 ?b16_1 A W 47 hf) (ec A (.int .i64 8))
    refine oc0 (fun A W hx hf => ?_) ?_
    exact ok_move (q0 ?b16_2 A W 48 hf)
    refine ocg 49 ?_ (fun A W hx hf => ?_) ?_
    rfl
    exact gd_f (q1 ?b16_2 A W 49 hf) (fun hc => ok_fieldS 4 Try.underlying25 (k := 4) rfl size3 rfl (o2 s15 e_w14 hx (r0 hf)) rfl)
    refine ocg 49 ?_ (fun A W hx hf => ?_) ?_
    rfl
    exact gd_f (q1 ?b16_2 A W 49 hf) (fun hc => ok_loadS Try.underlying3 rfl (G.get (q0 ?b16_4 A W 50 hf) hc) rfl)
    refine ocg 49 ?_ (fun A W hx hf => ?_) ?_
    rfl
    exact gd_f (q1 ?b16_2 A W 49 hf) (fun hc => ok_movE (a0 := a15) (r0 hf))
    refine ocg 49 ?_ (fun A W hx hf => ?_) ?_
    rfl
    exact gd_f (q1 ?b16_2 A W 49 hf) (fun hc => ok_len_bs Try.underlying22 (OwnBA.bs (p2 s14 e_w14 hx (G.get (q0 ?b16_6 A W 52 hf) hc))))
    refine ocg 49 ?_ (fun A W hx hf => ?_) ?_
    rfl
    exact gd_f (q2 ?b16_2 A W 49 hf) (fun hc => ok_gtr (G.get (q0 ?b16_5 A W 51 hf) hc) (G.get (q1 ?b16_7 A W 53 hf) hc))
    refine oc0 (fun A W hx hf => ?_) ?_
    exact ok_or (q0 ?b16_2 A W 49 hf) (q1 ?b16_8 A W 54 hf)
    refine oc0 (fun A W hx hf => ?_) ?_
    exact ok_move (q0 ?b16_9 A W 55 hf)
    refine ocg 56 ?_ (fun A W hx hf => ?_) ?_
    rfl
    exact gd_f (q1 ?b16_9 A W 56 hf) (fun hc => ok_movE (a0 := a15) (r0 hf))
    refine ocg 56 ?_ (fun A W hx hf => ?_) ?_
    rfl
    exact gd_f (q1 ?b16_9 A W 56 hf) (fun hc => ok_len_bs Try.underlying22 (OwnBA.bs (p2 s14 e_w14 hx (G.get (q0 ?b16_11 A W 57 hf) hc))))
    refine ocg 56 ?_ (fun A W hx hf => ?_) ?_
    rfl
    exact gd_f (q1 ?b16_9 A W 56 hf) (fun hc => ok_movE (a0 := a15) (r0 hf))
    refine ocg 56 ?_ (fun A W hx hf => ?_) ?_
    rfl
    exact gd_f (q1 ?b16_9 A W 56 hf) (fun hc => ok_len_bs Try.underlying22 (p2 s3 e_w hx (G.get (q0 ?b16_13 A W 59 hf) hc)))
    refine ocg 56 ?_ (fun A W hx hf => ?_) ?_
    rfl
    exact gd_f (q2 ?b16_9 A W 56 hf) (fun hc => ok_neq (G.get (q0 ?b16_12 A W 58 hf) hc) (G.get (q1 ?b16_14 A W 60 hf) hc))
    refine oc0 (fun A W hx hf => ?_) ?_
    exact ok_or (q0 ?b16_9 A W 56 hf) (q1 ?b16_15 A W 61 hf)
    exact OpsOk.nil
   case t16 => exact inferInstance
   clear hr; intro a17 w17 x hr hd hs
   revert s2 s4 s5 s6 s7 s14; refine kp6 hs rfl ?_; intro s2 s4 s5 s6 s7 s14
   revert s13 s15; refine kp2 hs rfl ?_; intro s13 s15
   clear s3
   have s62 := fa ?b16_16 a17 w17 62 (hd 16 62 rfl)
   replace e_w := e_w.trans x
   replace e_w14 := e_w14.trans x
   clear hd hs x
   refine exit_then ?_
   refine wp_cond_split (show _ = _ from s62) (fun hd9 => ?_) (fun hd9 => ?_)
   · skip
     exact spo10_dead (t := (T : Int)) (by omega) (by omega) hfl hd9
   · skip
     clear hd9
     refine wp_skip ?_
     refine exit_then ?_
     refine wp_seq ?_
     refine wp_reg 122 [[(4, none)], [(63, some 0)], [(15, none)], [(65, some 2)], [(64, some 1), (66, some 3)], [(67, some 4)]] [?b19_0, ?b19_1, ?b19_2, ?b19_3, ?b19_4, ?b19_4] mixed (by kernel_rfl) (by kernel_rfl) hr ?t19 ?o19 ?_
     case o19 =>
      refine oc0 (fun A W hx hf => ?_) ?_
      exact ok_movE (a0 := a17) (r0 hf)
      refine oc0 (fun A W hx hf => ?_) ?_
      exact ok_convI Try.underlying41 Try.underlying3 (by exact IntWalk.i64_in _ (by omega)) (p2 s4 e_w hx (q0 ?b19_0 A W 63 hf))
      refine oc0 (fun A W hx hf => ?_) ?_
      exact ok_fieldS 4 Try.underlying25 (k := 4) rfl size3 rfl (o2 s15 e_w14 hx (r0 hf)) rfl
      refine oc0 (fun A W hx hf => ?_) ?_
      exact ok_loadS Try.underlying3 rfl (q0 ?b19_2 A W 65 hf) rfl
      refine oc0 (fun A W hx hf => ?_) ?_
      exact ok_rem (by show (T : Int) ≠ 0; omega) (q0 ?b19_1 A W 64 hf) (q1 ?b19_3 A W 66 hf)
      refine oc0 (fun A W hx hf => ?_) ?_
      exact ok_assign (q0 ?b19_4 A W 67 hf)
      exact OpsOk.nil
     case t19 => exact inferInstance
     clear hr; intro a20 w20 x hr hd hs
     revert s2 s5 s6 s7 s14 s13; refine kp6 hs rfl ?_; intro s2 s5 s6 s7 s14 s13
     clear s4 s15 s62
     have s17 := fa ?b19_4 a20 w20 17 (hd 5 17 rfl)
     replace e_w := e_w.trans x
     replace e_w14 := e_w14.trans x
     clear hd hs x
     replace s17 := Is.int s17 hK
     refine exit_then ?_
     refine wp_seq ?_
     refine wp_seq ?_
     refine wp_reg 122 [[(2, none)], [(68, some 0)], [(17, none), (69, some 1)], [(70, some 2), (69, some 1)], [(71, some 3), (69, some 1)], [(17, none), (72, some 4)], [(73, some 5), (72, some 4)], [(72, some 4), (74, some 6), (69, some 1)], [(69, some 1), (75, some 7)], [(76, some 8)], [(2, none), (77, some 9)], [(78, some 10), (77, some 9)], [(79, some 11), (77, some 9)], [(17, none), (80, some 12)], [(81, some 13), (80, some 12)], [(80, some 12), (82, some 14), (77, some 9)], [(77, some 9), (83, some 15)]] [?b21_0, ?b21_0, ?b21_2, ?b21_3, ?b21_3, ?b21_5, ?b21_6, ?b21_7, ?b21_8, ?b21_8, ?b21_10, ?b21_11, ?b21_11, ?b21_13, ?b21_14, ?b21_15, ?b21_16] mixed (by kernel_rfl) (by kernel_rfl) hr ?t21 ?o21 ?_
     case o21 =>
      refine oc0 (fun A W hx hf => ?_) ?_
      exact ok_movE (a0 := a20) (r0 hf)
      refine oc0 (fun A W hx hf => ?_) ?_
      exact ok_move (q0 ?b21_0 A W 68 hf)
      refine ocg 69 ?_ (fun A W hx hf => ?_) ?_
      rfl
      exact gd_t (p2 s2 e_w hx (q1 ?b21_0 A W 69 hf)) (fun hc => ok_movE (a0 := a20) (r0 hf))
      refine ocg 69 ?_ (fun A W hx hf => ?_) ?_
      rfl
      exact gd_t (p2 s2 e_w hx (q1 ?b21_0 A W 69 hf)) (fun hc => ok_eql (p1 s17 hx (G.get (q0 ?b21_2 A W 70 hf) hc)) (ec A (.int .i64 4)))
      refine ocg 69 ?_ (fun A W hx hf => ?_) ?_
      rfl
      exact gd_t (p2 s2 e_w hx (q1 ?b21_0 A W 69 hf)) (fun hc => ok_move (G.get (q0 ?b21_3 A W 71 hf) hc))
      refine ocg 72 ?_ (fun A W hx hf => ?_) ?_
      rfl
      exact gd_gf (q1 ?b21_3 A W 72 hf) (fun hc => ok_movE (a0 := a20) (r0 hf))
      refine ocg 72 ?_ (fun A W hx hf => ?_) ?_
      rfl
      exact gd_gf (q1 ?b21_3 A W 72 hf) (fun hc => ok_eql (p1 s17 hx (G.get (q0 ?b21_5 A W 73 hf) hc)) (ec A (.int .i64 5)))
      refine ocg 69 ?_ (fun A W hx hf => ?_) ?_
      rfl
      exact gd_t (p2 s2 e_w hx (q2 ?b21_0 A W 69 hf)) (fun hc => ok_or (G.get (q0 ?b21_3 A W 72 hf) hc) (G.strip hc (q1 ?b21_6 A W 74 hf)))
      refine oc0 (fun A W hx hf => ?_) ?_
      exact ok_and (p2 s2 e_w hx (q0 ?b21_0 A W 69 hf)) (q1 ?b21_7 A W 75 hf)
      refine oc0 (fun A W hx hf => ?_) ?_
      exact ok_move (q0 ?b21_8 A W 76 hf)
      refine ocg 77 ?_ (fun A W hx hf => ?_) ?_
      rfl
      exact gd_f (q1 ?b21_8 A W 77 hf) (fun hc => ok_movE (a0 := a20) (r0 hf))
      refine ocg 77 ?_ (fun A W hx hf => ?_) ?_
      rfl
      exact gd_f (q1 ?b21_8 A W 77 hf) (fun hc => ok_not (p2 s2 e_w hx (G.get (q0 ?b21_10 A W 78 hf) hc)))
      refine ocg 77 ?_ (fun A W hx hf => ?_) ?_
      rfl
      exact gd_f (q1 ?b21_8 A W 77 hf) (fun hc => ok_move (G.get (q0 ?b21_11 A W 79 hf) hc))
      refine ocg 80 ?_ (fun A W hx hf => ?_) ?_
      rfl
      exact gd_gt (q1 ?b21_11 A W 80 hf) (fun hc => ok_movE (a0 := a20) (r0 hf))
      refine ocg 80 ?_ (fun A W hx hf => ?_) ?_
      rfl
      exact gd_gt (q1 ?b21_11 A W 80 hf) (fun hc => ok_eql (p1 s17 hx (G.get (q0 ?b21_13 A W 81 hf) hc)) (ec A (.int .i64 12)))
      refine ocg 77 ?_ (fun A W hx hf => ?_) ?_
      rfl
      exact gd_f (q2 ?b21_8 A W 77 hf) (fun hc => ok_and (G.get (q0 ?b21_11 A W 80 hf) hc) (G.strip hc (q1 ?b21_14 A W 82 hf)))
      refine oc0 (fun A W hx hf => ?_) ?_
      exact ok_or (q0 ?b21_8 A W 77 hf) (q1 ?b21_15 A W 83 hf)
      exact OpsOk.nil
     case t21 => exact inferInstance
     clear hr; intro a22 w22 x hr hd hs
     revert s2 s5 s6 s7 s14 s13; refine kp6 hs rfl ?_; intro s2 s5 s6 s7 s14 s13
     revert s17; refine kp1 hs rfl ?_; intro s17
     have s84 := fa ?b21_16 a22 w22 84 (hd 16 84 rfl)
     replace e_w := e_w.trans x
     replace e_w14 := e_w14.trans x
     have e_w20 := x
     clear hd hs x
     refine exit_then ?_
     refine wp_cond_split (show _ = _ from s84) (fun hk9 => ?_) (fun hk9 => ?_)
     · skip
       skip
       refine wp_seq ?_
       refine wp_reg 122 [[]] [?b24_0] mixed (by kernel_rfl) (by kernel_rfl) hr ?t24 ?o24 ?_
       case o24 =>
        refine oc0 (fun A W hx hf => ?_) ?_
        exact ok_assignc
        exact OpsOk.nil
       case t24 => exact inferInstance
       clear hr; intro a25 w25 x hr hd hs
       clear s2 s5 s6 s7 s14 s13 s17 s84
       have s12 := fa ?b24_0 a25 w25 12 (hd 0 12 rfl)
       replace e_w := e_w.trans x
       clear e_w14
       clear e_w20
       clear hd hs x
       refine exit_then ?_
       refine wp_ret ?_
       refine then_ret ?_
       refine ret_tmp Try.results6 hr e_w ?_
       first | with_reducible exact s12 | exact Is.bool s12 (spo10_zero (by omega) (by omega) hz9) | exact Is.bool s12 (spo10_end (by omega) (by omega) hz9 g3)
     · skip
       obtain ⟨L, hL⟩ : ∃ L, L = (pFill Sa Da (protoI u) l).set K ((pFill Sa Da (protoI u) l)[K]'(by omega) ^^^ c) := ⟨_, rfl⟩
       obtain ⟨g1, g2, g3⟩ := spoilt10 hA hD hok hcz (by omega) (by omega) hk9 hL
       refine wp_skip ?_
       refine exit_then ?_
       refine wp_seq ?_
       refine wp_reg_pre (l := [_, _, _, _, _, _, _, _, _]) (rest := [_]) 122 [[(14, none)], [(17, none)], [(14, none)], [(17, none)], [(87, some 2), (88, some 3)], [(89, some 4)], [(5, none)], [(90, some 5), (91, some 6)], [(85, some 0), (86, some 1)]] [?b26_0, ?b26_1, ?b26_2, ?b26_3, ?b26_4, ?b26_5, ?b26_6, ?b26_7, ?b26_8] (by kernel_rfl) (by kernel_rfl) hr ?t26 ?o26 ?_
       case o26 =>
        refine oc0 (fun A W hx hf => ?_) ?_
        exact ok_movE (a0 := a22) (r0 hf)
        refine oc0 (fun A W hx hf => ?_) ?_
        exact ok_movE (a0 := a22) (r0 hf)
        refine oc0 (fun A W hx hf => ?_) ?_
        exact ok_movE (a0 := a22) (r0 hf)
        refine oc0 (fun A W hx hf => ?_) ?_
        exact ok_movE (a0 := a22) (r0 hf)
        refine oc0 (fun A W hx hf => ?_) ?_
        exact ok_index_bs (_) Try.underlying22 size5 (OwnBA.bs (p2 s14 e_w14 hx (q0 ?b26_2 A W 87 hf))) (p2 s17 e_w20 hx (q1 ?b26_3 A W 88 hf)) (by omega)
        refine oc0 (fun A W hx hf => ?_) ?_
        exact ok_loadp Try.underlying5 rfl (q0 ?b26_4 A W 89 hf)
        refine oc0 (fun A W hx hf => ?_) ?_
        exact ok_movE (a0 := a22) (r0 hf)
        refine oc0 (fun A W hx hf => ?_) ?_
        exact ok_xorb (q0 ?b26_5 A W 90 hf) (p2 s5 e_w hx (q1 ?b26_6 A W 91 hf))
        refine oc0 (fun A W hx hf => ?_) ?_
        exact ok_indexA (_) Try.underlying22 size5 (p2 s14 e_w14 hx (q0 ?b26_0 A W 85 hf)) (p2 s17 e_w20 hx (q1 ?b26_1 A W 86 hf)) (by omega)
        exact OpsOk.nil
       case t26 => exact inferInstance
       clear hr; intro a27 w27 x hr hd hs
       revert s2 s6 s7 s14 s13; refine kp5 hs rfl ?_; intro s2 s6 s7 s14 s13
       clear s5 s17 s84
       have s92 := fa ?b26_7 a27 w27 92 (hd 7 92 rfl)
       have s93 := fa ?b26_8 a27 w27 93 (hd 8 93 rfl)
       replace e_w := e_w.trans x
       replace e_w14 := e_w14.trans x
       clear e_w20
       clear hd hs x
       have z28 := EpA.lt s93
       have l28 := (show (g11_14 = 0 ∨ w.heap.size < g11_14) ∧ True from ⟨by omega, trivial⟩)
       have l28_6 := PxS.lt (later e_w14 s6)
       have l28_7 := PxS.lt (later e_w14 s7)
       refine wl_storeA hr size5 s93 (ByteIs.of s92 (by exact xor_bd _ _)) ?_; clear hr; intro a28 w28 hc hu hr hs
       have hb : Below w.heap.size w27 w28 := hc.below e_w.size l28.1
       revert s2 s6 s7 s14 s13; refine kp5 hs rfl ?_; intro s2 s6 s7 s14 s13
       clear s92 s93
       replace s6 := PxS.other (later e_w14 s6) hc (by omega)
       replace s7 := PxS.other (later e_w14 s7) hc (by omega)
       replace s14 := hu _ _ _ (later e_w14 s14)
       replace e_w := e_w.below (Nat.le_refl _) hb
       clear e_w14
       replace s13 := anyw (w2 := w28) s13
       clear hu hs hc hb
       refine wpList_nil ?_
       replace s14 := OwnBA.cast s14 (show _ = L from by rw [b8_xor]; exact hL.symm)
       refine exit_then ?_
       refine wp_seq ?_
       refine wp_seq ?_
       refine wp_reg 122 [[(2, none)], [(94, some 0)], [(14, none), (95, some 1)], [(96, some 2), (95, some 1)], [(97, some 3), (95, some 1)], [(98, some 4), (95, some 1)], [(95, some 1), (99, some 5)], [(100, some 6)], [(14, none), (101, some 7)], [(102, some 8), (101, some 7)], [(103, some 9), (101, some 7)], [(104, some 10), (101, some 7)], [(101, some 7), (105, some 11)]] [?b29_0, ?b29_0, ?b29_2, ?b29_3, ?b29_4, ?b29_5, ?b29_6, ?b29_6, ?b29_8, ?b29_9, ?b29_10, ?b29_11, ?b29_12] mixed (by kernel_rfl) (by kernel_rfl) hr ?t29 ?o29 ?_
       case o29 =>
        refine oc0 (fun A W hx hf => ?_) ?_
        exact ok_movE (a0 := a28) (r0 hf)
        refine oc0 (fun A W hx hf => ?_) ?_
        exact ok_move (q0 ?b29_0 A W 94 hf)
        refine ocg 95 ?_ (fun A W hx hf => ?_) ?_
        rfl
        exact gd_t (p2 s2 e_w hx (q1 ?b29_0 A W 95 hf)) (fun hc => ok_movE (a0 := a28) (r0 hf))
        refine ocg 95 ?_ (fun A W hx hf => ?_) ?_
        rfl
        exact gd_t (p2 s2 e_w hx (q1 ?b29_0 A W 95 hf)) (fun hc => ok_index_bs (6) Try.underlying22 size5 (OwnBA.bs (p1 s14 hx (G.get (q0 ?b29_2 A W 96 hf) hc))) (ec A (.int .i64 6)) (by omega))
        refine ocg 95 ?_ (fun A W hx hf => ?_) ?_
        rfl
        exact gd_t (p2 s2 e_w hx (q1 ?b29_0 A W 95 hf)) (fun hc => ok_loadp Try.underlying5 rfl (G.get (q0 ?b29_3 A W 97 hf) hc))
        refine ocg 95 ?_ (fun A W hx hf => ?_) ?_
        rfl
        exact gd_t (p2 s2 e_w hx (q1 ?b29_0 A W 95 hf)) (fun hc => ok_eql (G.get (q0 ?b29_4 A W 98 hf) hc) (ec A (.int .u8 0)))
        refine oc0 (fun A W hx hf => ?_) ?_
        exact ok_and (p2 s2 e_w hx (q0 ?b29_0 A W 95 hf)) (q1 ?b29_5 A W 99 hf)
        refine oc0 (fun A W hx hf => ?_) ?_
        exact ok_move (q0 ?b29_6 A W 100 hf)
        refine ocg 101 ?_ (fun A W hx hf => ?_) ?_
        rfl
        exact gd_t (q1 ?b29_6 A W 101 hf) (fun hc => ok_movE (a0 := a28) (r0 hf))
        refine ocg 101 ?_ (fun A W hx hf => ?_) ?_
        rfl
        exact gd_t (q1 ?b29_6 A W 101 hf) (fun hc => ok_index_bs (7) Try.underlying22 size5 (OwnBA.bs (p1 s14 hx (G.get (q0 ?b29_8 A W 102 hf) hc))) (ec A (.int .i64 7)) (by omega))
        refine ocg 101 ?_ (fun A W hx hf => ?_) ?_
        rfl
        exact gd_t (q1 ?b29_6 A W 101 hf) (fun hc => ok_loadp Try.underlying5 rfl (G.get (q0 ?b29_9 A W 103 hf) hc))
        refine ocg 101 ?_ (fun A W hx hf => ?_) ?_
        rfl
        exact gd_t (q1 ?b29_6 A W 101 hf) (fun hc => ok_eql (G.get (q0 ?b29_10 A W 104 hf) hc) (ec A (.int .u8 0)))
        refine oc0 (fun A W hx hf => ?_) ?_
        exact ok_and (q0 ?b29_6 A W 101 hf) (q1 ?b29_11 A W 105 hf)
        exact OpsOk.nil
       case t29 => exact inferInstance
       clear hr; intro a30 w30 x hr hd hs
       revert s6 s7 s13 s14; refine kp4 hs rfl ?_; intro s6 s7 s13 s14
       clear s2
       have s106 := fa ?b29_12 a30 w30 106 (hd 12 106 rfl)
       replace e_w := e_w.trans x
       have e_w28 := x
       clear hd hs x
       refine exit_then ?_
       refine wp_cond_split (show _ = _ from s106) (fun hz9 => ?_) (fun hz9 => ?_)
       · skip
         skip
         refine wp_seq ?_
         refine wp_reg 122 [[(6, none)], [(7, none)], [(13, none)], [(14, none)], [(107, some 0), (108, some 1), (109, some 2), (110, some 3)], [(6, none)], [(112, some 5)], [(113, some 6)], [(111, some 4), (114, some 7)], [(115, some 8)]] [?b32_0, ?b32_1, ?b32_2, ?b32_3, ?b32_4, ?b32_5, ?b32_6, ?b32_7, ?b32_8, ?b32_8] mixed (by kernel_rfl) (by kernel_rfl) hr ?t32 ?o32 ?_
         case o32 =>
          refine oc0 (fun A W hx hf => ?_) ?_
          exact ok_loadAggS 2 Try.underlying35 rfl size35 (o2 s6 e_w28 hx (r0 hf)) rfl
          refine oc0 (fun A W hx hf => ?_) ?_
          exact ok_loadAggS 2 Try.underlying35 rfl size35 (o2 s7 e_w28 hx (r0 hf)) rfl
          refine oc0 (fun A W hx hf => ?_) ?_
          exact ok_movE (a0 := a30) (r0 hf)
          refine oc0 (fun A W hx hf => ?_) ?_
          exact ok_movE (a0 := a30) (r0 hf)
          refine oc0 (fun A W hx hf => ?_) ?_
          exact ok_call4 body15 (c_pRight (Is.conv (q0 ?b32_0 A W 107 hf) (adr_seg Sa)) (Is.conv (q1 ?b32_1 A W 108 hf) (adr_seg Da)) (p2 s13 e_w28 hx (q2 ?b32_2 A W 109 hf)) (OwnBA.bs (p2 s14 e_w28 hx (q3 ?b32_3 A W 110 hf))) (by assumption) (by assumption) (by assumption) (by omega))
          refine oc0 (fun A W hx hf => ?_) ?_
          exact ok_fieldS 0 Try.underlying35 (k := 0) rfl size4 rfl (o2 s6 e_w28 hx (r0 hf)) rfl
          refine oc0 (fun A W hx hf => ?_) ?_
          exact ok_loadS Try.underlying4 rfl (q0 ?b32_5 A W 112 hf) rfl
          refine oc0 (fun A W hx hf => ?_) ?_
          exact ok_not (q0 ?b32_6 A W 113 hf)
          refine oc0 (fun A W hx hf => ?_) ?_
          exact ok_eqb Try.underlying4 (q0 ?b32_4 A W 111 hf) (q1 ?b32_7 A W 114 hf)
          refine oc0 (fun A W hx hf => ?_) ?_
          exact ok_assign (q0 ?b32_8 A W 115 hf)
          exact OpsOk.nil
         case t32 => exact inferInstance
         clear hr; intro a33 w33 x hr hd hs
         clear s6 s7 s13 s14 s106
         have s12 := fa ?b32_8 a33 w33 12 (hd 9 12 rfl)
         replace e_w := e_w.trans x
         clear e_w28
         clear hd hs x
         refine exit_then ?_
         refine wp_ret ?_
         refine then_ret ?_
         refine ret_tmp Try.results6 hr e_w ?_
         first | with_reducible exact s12 | exact Is.bool s12 (spo10_zero (by omega) (by omega) hz9) | exact Is.bool s12 (spo10_end (by omega) (by omega) hz9 g3)
       · skip
         skip
         refine wp_skip ?_
         refine exit_then ?_
         refine wp_seq ?_
         refine wp_reg 122 [[(6, none)], [(7, none)], [(13, none)], [(14, none)], [(116, some 0), (117, some 1), (118, some 2), (119, some 3)], [(120, some 4)], [(121, some 5)]] [?b34_0, ?b34_1, ?b34_2, ?b34_3, ?b34_4, ?b34_5, ?b34_5] mixed (by kernel_rfl) (by kernel_rfl) hr ?t34 ?o34 ?_
         case o34 =>
          refine oc0 (fun A W hx hf => ?_) ?_
          exact ok_loadAggS 2 Try.underlying35 rfl size35 (o2 s6 e_w28 hx (r0 hf)) rfl
          refine oc0 (fun A W hx hf => ?_) ?_
          exact ok_loadAggS 2 Try.underlying35 rfl size35 (o2 s7 e_w28 hx (r0 hf)) rfl
          refine oc0 (fun A W hx hf => ?_) ?_
          exact ok_movE (a0 := a30) (r0 hf)
          refine oc0 (fun A W hx hf => ?_) ?_
          exact ok_movE (a0 := a30) (r0 hf)
          refine oc0 (fun A W hx hf => ?_) ?_
          exact ok_call4 body15 (c_pRight (Is.conv (q0 ?b34_0 A W 116 hf) (adr_seg Sa)) (Is.conv (q1 ?b34_1 A W 117 hf) (adr_seg Da)) (p2 s13 e_w28 hx (q2 ?b34_2 A W 118 hf)) (OwnBA.bs (p2 s14 e_w28 hx (q3 ?b34_3 A W 119 hf))) (by assumption) (by assumption) (by assumption) (by omega))
          refine oc0 (fun A W hx hf => ?_) ?_
          exact ok_not (q0 ?b34_4 A W 120 hf)
          refine oc0 (fun A W hx hf => ?_) ?_
          exact ok_assign (q0 ?b34_5 A W 121 hf)
          exact OpsOk.nil
         case t34 => exact inferInstance
         clear hr; intro a35 w35 x hr hd hs
         clear s6 s7 s13 s14 s106
         have s12 := fa ?b34_5 a35 w35 12 (hd 6 12 rfl)
         replace e_w := e_w.trans x
         clear e_w28
         clear hd hs x
         refine exit_then ?_
         refine wp_ret ?_
         refine ret_tmp Try.results6 hr e_w ?_
         first | with_reducible exact s12 | exact Is.bool s12 (spo10_zero (by omega) (by omega) hz9) | exact Is.bool s12 (spo10_end (by omega) (by omega) hz9 g3)

end Go.Proofs.Yteccaejdgefdpaa
