import Derived.Test.YtpjpfmnnefgnbaaA11
import Derived.Test.YtpjpfmnnefgnbaaC11r
namespace Go.Proofs.Ytpjpfmnnefgnbaa
open Go.RowKit
set_option linter.unusedVariables false
set_option linter.unusedSimpArgs false
set_option maxRecDepth 4000
theorem law_PacketReads {x0 : Value} {w : World} {l : List UInt8} (h0 : (Bs l) x0 w)  :
    Calls Try.prog 3 #[x0] w (Ret (Is (.bool true)) w) := by
 have hlen := Bs.len_le h0
 refine enter Try.func3 rfl Try.ntmps3 (k := 1) rfl (by decide) (fun a0 hr hargs => ?_)
 have s0 := sarg h0 (hargs 0 (by decide))
 clear hargs
 refine wp_seq ?_
 refine wp_reg 16 [[]] [?b1_0] mixed hr ?t1 ?o1 ?_
 case o1 =>
  refine oc0 (fun A W hx hf => ?_) ?_
  exact ok_assignc
  exact OpsOk.nil
 case t1 => exact inferInstance
 clear hr; intro a2 w2 x hr hd hs
 revert s0; refine kp1 hs rfl ?_; intro s0
 have e_w := x
 clear hd hs x
 refine exit_then ?_
 refine wp_seq ?_
 refine wp_seq ?_
 refine wp_reg 16 [[], [(3, some 0)], [(4, some 1)], [(0, none), (5, some 2)], [(6, some 3), (5, some 2)], [(7, some 4), (5, some 2)], [(5, some 2), (8, some 5)]] [?b3_0, ?b3_1, ?b3_1, ?b3_3, ?b3_4, ?b3_5, ?b3_6] mixed hr ?t3 ?o3 ?_
 case o3 =>
  refine oc0 (fun A W hx hf => ?_) ?_
  exact ok_call0 body9 (c_awake11 )
  refine oc0 (fun A W hx hf => ?_) ?_
  exact ok_not (q0 ?b3_0 A W 3 hf)
  refine oc0 (fun A W hx hf => ?_) ?_
  exact ok_move (q0 ?b3_1 A W 4 hf)
  refine ocg 5 ?_ (fun A W hx hf => ?_) ?_
  rfl
  exact gd_f (q1 ?b3_1 A W 5 hf) (fun hc => ok_movE (a0 := a2) (r0 hf))
  refine ocg 5 ?_ (fun A W hx hf => ?_) ?_
  rfl
  exact gd_f (q1 ?b3_1 A W 5 hf) (fun hc => ok_len_bs Try.underlying22 (p2 s0 e_w hx (G.get (q0 ?b3_3 A W 6 hf) hc)))
  refine ocg 5 ?_ (fun A W hx hf => ?_) ?_
  rfl
  exact gd_f (q1 ?b3_1 A W 5 hf) (fun hc => ok_gtr (G.get (q0 ?b3_4 A W 7 hf) hc) (ec A (.int .i64 3000)))
  refine oc0 (fun A W hx hf => ?_) ?_
  exact ok_or (q0 ?b3_1 A W 5 hf) (q1 ?b3_5 A W 8 hf)
  exact OpsOk.nil
 case t3 => exact inferInstance
 clear hr; intro a4 w4 x hr hd hs
 revert s0; refine kp1 hs rfl ?_; intro s0
 have s9 := fa ?b3_6 a4 w4 9 (hd 6 9 rfl)
 replace e_w := e_w.trans x
 clear hd hs x
 refine exit_then ?_
 refine wp_cond_split (show _ = _ from s9) (fun hg => ?_) (fun hg => ?_)
 ·
  skip
  refine wp_seq ?_
  refine wp_reg 16 [[], [(10, some 0)]] [?b6_0, ?b6_0] mixed hr ?t6 ?o6 ?_
  case o6 =>
   refine oc0 (fun A W hx hf => ?_) ?_
   exact ok_call0 body9 (c_awake11 )
   refine oc0 (fun A W hx hf => ?_) ?_
   exact ok_assign (q0 ?b6_0 A W 10 hf)
   exact OpsOk.nil
  case t6 => exact inferInstance
  clear hr; intro a7 w7 x hr hd hs
  clear s0 s9
  have s2 := fa ?b6_0 a7 w7 2 (hd 1 2 rfl)
  replace e_w := e_w.trans x
  clear hd hs x
  refine exit_then ?_
  refine wp_ret ?_
  refine then_ret ?_
  refine ret_tmp Try.results3 hr e_w ?_
  exact s2
 ·
  have hg9 : l.length ≤ 3000 := by simp at hg; omega
  refine wp_skip ?_
  refine exit_then ?_
  refine wp_seq ?_
  refine wp_reg 16 [[(0, none)], [(11, some 0)], [(0, none)], [(13, some 2)], [(12, some 1), (14, some 3)], [(15, some 4)]] [?b8_0, ?b8_1, ?b8_2, ?b8_3, ?b8_4, ?b8_4] mixed hr ?t8 ?o8 ?_
  case o8 =>
   refine oc0 (fun A W hx hf => ?_) ?_
   exact ok_movE (a0 := a4) (r0 hf)
   refine oc0 (fun A W hx hf => ?_) ?_
   exact ok_call1 body10 (c_pkRead (p2 s0 e_w hx (q0 ?b8_0 A W 11 hf)))
   refine oc0 (fun A W hx hf => ?_) ?_
   exact ok_movE (a0 := a4) (r0 hf)
   refine oc0 (fun A W hx hf => ?_) ?_
   exact ok_call1 body11 (c_r11Read (p2 s0 e_w hx (q0 ?b8_2 A W 13 hf)) (by omega))
   refine oc0 (fun A W hx hf => ?_) ?_
   exact ok_eqself eqg30 (eq_pkt (pktRead_ok l)) (q0 ?b8_1 A W 12 hf) (q1 ?b8_3 A W 14 hf)
   refine oc0 (fun A W hx hf => ?_) ?_
   exact ok_assign (q0 ?b8_4 A W 15 hf)
   exact OpsOk.nil
  case t8 => exact inferInstance
  clear hr; intro a9 w9 x hr hd hs
  clear s0 s9
  have s2 := fa ?b8_4 a9 w9 2 (hd 5 2 rfl)
  replace e_w := e_w.trans x
  clear hd hs x
  refine exit_then ?_
  refine wp_ret ?_
  refine ret_tmp Try.results3 hr e_w ?_
  exact s2

end Go.Proofs.Ytpjpfmnnefgnbaa
