import Derived.Test.YtnlmppannjebfaaA13
import Derived.Test.YtnlmppannjebfaaC13f
import Derived.Test.YtnlmppannjebfaaC13e
import Derived.Test.YtnlmppannjebfaaC07
import Derived.Test.YtnlmppannjebfaaC06
import Derived.Test.YtnlmppannjebfaaE13
namespace Go.Proofs.Ytnlmppannjebfaa
open Go.RowKit
set_option linter.unusedVariables false
set_option linter.unusedSimpArgs false
set_option maxRecDepth 4000
set_option maxHeartbeats 1000000 in
theorem law_TunnelWraps {x0 x1 x2 : Value} {w : World} {l : List UInt8} {Sa Da : Adr} (h0 : (Bs l) x0 w) (h1 : (Is (AdrV Sa)) x1 w) (h2 : (Is (AdrV Da)) x2 w) (hA : Sa.b.length = 16) (hD : Da.b.length = 16) :
    Calls Try.prog 3 #[x0, x1, x2] w (Ret (Is (.bool true)) w) := by
 have hlen := Bs.len_le h0
 refine enter Try.func3 rfl Try.ntmps3 (k := 3) rfl (by decide) (fun a0 hr hargs => ?_)
 have s0 := sarg h0 (hargs 0 (by decide))
 have s1 := sarg h1 (hargs 1 (by decide))
 have s2 := sarg h2 (hargs 2 (by decide))
 clear hargs
 refine wp_seq ?_
 refine wp_reg 41 [[(1, none)], [(2, none)], []] [?b1_0, ?b1_1, ?b1_2] mixed hr ?t1 ?o1 ?_
 case o1 =>
  refine oc0 (fun A W hx hf => ?_) ?_
  exact ok_boxS [[.bool Sa.six], Sa.b.map byteV] [1, 16] (Is.conv (o1 s1 hx (r0 hf)) (adr_seg Sa).symm) (by simp [*]) hx.size
  refine oc0 (fun A W hx hf => ?_) ?_
  exact ok_boxS [[.bool Da.six], Da.b.map byteV] [1, 16] (Is.conv (o1 s2 hx (r0 hf)) (adr_seg Da).symm) (by simp [*]) hx.size
  refine oc0 (fun A W hx hf => ?_) ?_
  exact ok_assignc
  exact OpsOk.nil
 case t1 => exact inferInstance
 clear hr; intro a2 w2 x hr hd hs
 revert s0; refine kp1 hs rfl ?_; intro s0
 clear s1 s2
 have s4 := fa ?b1_0 a2 w2 4 (hd 0 4 rfl)
 have s5 := fa ?b1_1 a2 w2 5 (hd 1 5 rfl)
 obtain ⟨g2_4, q2_4⟩ := PxN.at s4; clear s4; have n2_4 := PxS.lt q2_4
 have s4 := q2_4; clear q2_4
 obtain ⟨g2_5, q2_5⟩ := PxN.at s5; clear s5; have n2_5 := PxS.lt q2_5
 have s5 := q2_5; clear q2_5
 have e_w := x
 clear hd hs x
 refine exit_then ?_
 refine wp_seq ?_
 refine wp_seq ?_
 refine wp_reg 41 [[], [(11, some 0)], [(12, some 1)], [(0, none), (13, some 2)], [(14, some 3), (13, some 2)], [(15, some 4), (13, some 2)], [(13, some 2), (16, some 5)]] [?b3_0, ?b3_1, ?b3_1, ?b3_3, ?b3_4, ?b3_5, ?b3_6] mixed hr ?t3 ?o3 ?_
 case o3 =>
  refine oc0 (fun A W hx hf => ?_) ?_
  exact ok_call0 body9 (c_awake13 )
  refine oc0 (fun A W hx hf => ?_) ?_
  exact ok_not (q0 ?b3_0 A W 11 hf)
  refine oc0 (fun A W hx hf => ?_) ?_
  exact ok_move (q0 ?b3_1 A W 12 hf)
  refine ocg 13 ?_ (fun A W hx hf => ?_) ?_
  rfl
  exact gd_f (q1 ?b3_1 A W 13 hf) (fun hc => ok_movE (a0 := a2) (r0 hf))
  refine ocg 13 ?_ (fun A W hx hf => ?_) ?_
  rfl
  exact gd_f (q1 ?b3_1 A W 13 hf) (fun hc => ok_len_bs Try.underlying22 (p2 s0 e_w hx (G.get (q0 ?b3_3 A W 14 hf) hc)))
  refine ocg 13 ?_ (fun A W hx hf => ?_) ?_
  rfl
  exact gd_f (q1 ?b3_1 A W 13 hf) (fun hc => ok_gtr (G.get (q0 ?b3_4 A W 15 hf) hc) (ec A (.int .i64 3000)))
  refine oc0 (fun A W hx hf => ?_) ?_
  exact ok_or (q0 ?b3_1 A W 13 hf) (q1 ?b3_5 A W 16 hf)
  exact OpsOk.nil
 case t3 => exact inferInstance
 clear hr; intro a4 w4 x hr hd hs
 revert s5; revert s4; revert s0; refine kp3 hs rfl ?_; intro s0 s4 s5
 have s17 := fa ?b3_6 a4 w4 17 (hd 6 17 rfl)
 replace e_w := e_w.trans x
 have e_w2 := x
 clear hd hs x
 refine exit_then ?_
 refine wp_cond_split (show _ = _ from s17) (fun hl => ?_) (fun hl => ?_)
 ·
  skip
  refine wp_seq ?_
  refine wp_reg 41 [[], [(18, some 0)]] [?b6_0, ?b6_0] mixed hr ?t6 ?o6 ?_
  case o6 =>
   refine oc0 (fun A W hx hf => ?_) ?_
   exact ok_call0 body9 (c_awake13 )
   refine oc0 (fun A W hx hf => ?_) ?_
   exact ok_assign (q0 ?b6_0 A W 18 hf)
   exact OpsOk.nil
  case t6 => exact inferInstance
  clear hr; intro a7 w7 x hr hd hs
  clear s0 s4 s5 s17
  have s6 := fa ?b6_0 a7 w7 6 (hd 1 6 rfl)
  replace e_w := e_w.trans x
  clear e_w2
  clear hd hs x
  refine exit_then ?_
  refine wp_ret ?_
  refine then_ret ?_
  refine ret_tmp Try.results3 hr e_w ?_
  first | with_reducible exact s6 | exact Is.bool s6 (by simp)
 ·
  have hl : l.length ≤ 3000 := by simp at hl; omega
  refine wp_skip ?_
  refine exit_then ?_
  refine wp_seq ?_
  refine wp_reg 41 [[(0, none)], [(4, none)], [(5, none)], [(20, some 0), (21, some 1), (22, some 2)], [(23, some 3)], [(19, some 4)], [(19, some 4)], [(24, some 5)], [(25, some 6)]] [?b8_0, ?b8_1, ?b8_2, ?b8_3, ?b8_3, ?b8_5, ?b8_6, ?b8_5, ?b8_6] mixed hr ?t8 ?o8 ?_
  case o8 =>
   refine oc0 (fun A W hx hf => ?_) ?_
   exact ok_movE (a0 := a4) (r0 hf)
   refine oc0 (fun A W hx hf => ?_) ?_
   exact ok_loadAggS 2 Try.underlying25 rfl size25 (o2 s4 e_w2 hx (r0 hf)) rfl
   refine oc0 (fun A W hx hf => ?_) ?_
   exact ok_loadAggS 2 Try.underlying25 rfl size25 (o2 s5 e_w2 hx (r0 hf)) rfl
   refine oc0 (fun A W hx hf => ?_) ?_
   exact ok_call3 body10 (c_tWrap (p2 s0 e_w hx (q0 ?b8_0 A W 20 hf)) (Is.conv (q1 ?b8_1 A W 21 hf) (adr_seg Sa)) (Is.conv (q2 ?b8_2 A W 22 hf) (adr_seg Da)) (by exact hA) (by exact hD) (by omega) hx.size)
   refine oc0 (fun A W hx hf => ?_) ?_
   exact ok_move (q0 ?b8_3 A W 23 hf)
   refine oc0 (fun A W hx hf => ?_) ?_
   exact ok_ext0 (q0 ?b8_3 A W 19 hf)
   refine oc0 (fun A W hx hf => ?_) ?_
   exact ok_ext1 (q0 ?b8_3 A W 19 hf)
   refine oc0 (fun A W hx hf => ?_) ?_
   exact ok_assign (q0 ?b8_5 A W 24 hf)
   refine oc0 (fun A W hx hf => ?_) ?_
   exact ok_assign (q0 ?b8_6 A W 25 hf)
   exact OpsOk.nil
  case t8 => exact inferInstance
  clear hr; intro a9 w9 x hr hd hs
  have z_w_w4 := e_w.size
  have z_w2_w4 := e_w2.size
  have l9_4 := PxS.lt (later e_w2 s4)
  have l9_5 := PxS.lt (later e_w2 s5)
  revert s5; revert s4; revert s0; refine kp3 hs rfl ?_; intro s0 s4 s5
  clear s17
  have s7 := fa ?b8_5 a9 w9 7 (hd 7 7 rfl)
  have s8 := fa ?b8_6 a9 w9 8 (hd 8 8 rfl)
  obtain ⟨g9_7, q9_7⟩ := OwnB.at s7; clear s7; have n9_7 := OwnBA.lt q9_7
  replace q9_7 := OwnBA.mono q9_7 e_w.size
  have s7 := q9_7; clear q9_7
  replace e_w := e_w.trans x
  replace e_w2 := e_w2.trans x
  clear hd hs x
  refine exit_then ?_
  refine wp_seq ?_
  refine wp_reg 41 [[(0, none)], [(4, none)], [(5, none)], [(27, some 0), (28, some 1), (29, some 2)], [(30, some 3)], [(26, some 4)], [(26, some 4)], [(31, some 5)], [(32, some 6)]] [?b10_0, ?b10_1, ?b10_2, ?b10_3, ?b10_3, ?b10_5, ?b10_6, ?b10_5, ?b10_6] mixed hr ?t10 ?o10 ?_
  case o10 =>
   refine oc0 (fun A W hx hf => ?_) ?_
   exact ok_movE (a0 := a9) (r0 hf)
   refine oc0 (fun A W hx hf => ?_) ?_
   exact ok_loadAggS 2 Try.underlying25 rfl size25 (o2 s4 e_w2 hx (r0 hf)) rfl
   refine oc0 (fun A W hx hf => ?_) ?_
   exact ok_loadAggS 2 Try.underlying25 rfl size25 (o2 s5 e_w2 hx (r0 hf)) rfl
   refine oc0 (fun A W hx hf => ?_) ?_
   exact ok_call3 body11 (c_r13Wrap (p2 s0 e_w hx (q0 ?b10_0 A W 27 hf)) (Is.conv (q1 ?b10_1 A W 28 hf) (adr_seg Sa)) (Is.conv (q2 ?b10_2 A W 29 hf) (adr_seg Da)) (by exact hA) (by exact hD) (by omega) hx.size)
   refine oc0 (fun A W hx hf => ?_) ?_
   exact ok_move (q0 ?b10_3 A W 30 hf)
   refine oc0 (fun A W hx hf => ?_) ?_
   exact ok_ext0 (q0 ?b10_3 A W 26 hf)
   refine oc0 (fun A W hx hf => ?_) ?_
   exact ok_ext1 (q0 ?b10_3 A W 26 hf)
   refine oc0 (fun A W hx hf => ?_) ?_
   exact ok_assign (q0 ?b10_5 A W 31 hf)
   refine oc0 (fun A W hx hf => ?_) ?_
   exact ok_assign (q0 ?b10_6 A W 32 hf)
   exact OpsOk.nil
  case t10 => exact inferInstance
  clear hr; intro a11 w11 x hr hd hs
  have z_w_w9 := e_w.size
  have z_w2_w9 := e_w2.size
  have l11_4 := PxS.lt (later e_w2 s4)
  have l11_5 := PxS.lt (later e_w2 s5)
  have l11_7 := OwnBA.lt s7
  revert s7; revert s8; refine kp2 hs rfl ?_; intro s8 s7
  clear s0 s4 s5
  have s9 := fa ?b10_5 a11 w11 9 (hd 7 9 rfl)
  have s10 := fa ?b10_6 a11 w11 10 (hd 8 10 rfl)
  obtain ⟨g11_9, q11_9⟩ := OwnB.at s9; clear s9; have n11_9 := OwnBA.lt q11_9
  replace q11_9 := OwnBA.mono q11_9 e_w.size
  have s9 := q11_9; clear q11_9
  replace e_w := e_w.trans x
  clear e_w2
  have e_w9 := x
  clear hd hs x
  refine exit_then ?_
  refine wp_seq ?_
  refine wp_reg 41 [[(8, none)], [(10, none)], [(33, some 0), (34, some 1)], [(35, some 2)], [(7, none), (36, some 3)], [(9, none), (36, some 3)], [(37, some 4), (38, some 5), (36, some 3)], [(36, some 3), (39, some 6)], [(40, some 7)]] [?b12_0, ?b12_1, ?b12_2, ?b12_2, ?b12_4, ?b12_5, ?b12_6, ?b12_7, ?b12_7] mixed hr ?t12 ?o12 ?_
  case o12 =>
   refine oc0 (fun A W hx hf => ?_) ?_
   exact ok_movE (a0 := a11) (r0 hf)
   refine oc0 (fun A W hx hf => ?_) ?_
   exact ok_movE (a0 := a11) (r0 hf)
   refine oc0 (fun A W hx hf => ?_) ?_
   exact ok_eql (p2 s8 e_w9 hx (q0 ?b12_0 A W 33 hf)) (p1 s10 hx (q1 ?b12_1 A W 34 hf))
   refine oc0 (fun A W hx hf => ?_) ?_
   exact ok_move (q0 ?b12_2 A W 35 hf)
   refine ocg 36 ?_ (fun A W hx hf => ?_) ?_
   rfl
   exact gd_t (q1 ?b12_2 A W 36 hf) (fun hc => ok_movE (a0 := a11) (r0 hf))
   refine ocg 36 ?_ (fun A W hx hf => ?_) ?_
   rfl
   exact gd_t (q1 ?b12_2 A W 36 hf) (fun hc => ok_movE (a0 := a11) (r0 hf))
   refine ocg 36 ?_ (fun A W hx hf => ?_) ?_
   rfl
   exact gd_t (q2 ?b12_2 A W 36 hf) (fun hc => ok_call2 body12 (c_Same (OwnBA.bs (p2 s7 e_w9 hx (G.get (q0 ?b12_4 A W 37 hf) hc))) (OwnBA.bs (p1 s9 hx (G.get (q1 ?b12_5 A W 38 hf) hc)))))
   refine oc0 (fun A W hx hf => ?_) ?_
   exact ok_and (q0 ?b12_2 A W 36 hf) (q1 ?b12_6 A W 39 hf)
   refine oc0 (fun A W hx hf => ?_) ?_
   exact ok_assign (q0 ?b12_7 A W 40 hf)
   exact OpsOk.nil
  case t12 => exact inferInstance
  clear hr; intro a13 w13 x hr hd hs
  clear s8 s7 s10 s9
  have s6 := fa ?b12_7 a13 w13 6 (hd 8 6 rfl)
  replace e_w := e_w.trans x
  clear e_w9
  clear hd hs x
  refine exit_then ?_
  refine wp_ret ?_
  refine ret_tmp Try.results3 hr e_w ?_
  first | with_reducible exact s6 | exact Is.bool s6 (by simp)

end Go.Proofs.Ytnlmppannjebfaa
