import Derived.Test.YtdbjpfjnambenaaC06a
namespace Go.Proofs.Ytdbjpfjnambenaa
open Go.RowKit
set_option linter.unusedVariables false
set_option maxRecDepth 4000
theorem c_Same {x0 x1 : Value} {w : World} {l m : List UInt8} (h0 : (Bs l) x0 w) (h1 : (Bs m) x1 w)  :
    Calls Try.prog 15 #[x0, x1] w (Ret (Is (.bool (l == m))) w) := by
 refine enter Try.func15 rfl Try.ntmps15 (k := 2) rfl (by decide) (fun a0 hr hargs => ?_)
 have s0 := sarg h0 (hargs 0 (by decide))
 have s1 := sarg h1 (hargs 1 (by decide))
 clear hargs
 refine wp_seq ?_
 refine wp_reg 10 [[]] [?b1_0] mixed (by kernel_rfl) (by kernel_rfl) hr ?t1 ?o1 ?_
 case o1 =>
  refine oc0 (fun A W hx hf => ?_) ?_
  exact ok_assignc
  exact OpsOk.nil
 case t1 => exact inferInstance
 clear hr; intro a2 w2 x hr hd hs
 revert s1; revert s0; refine kp2 hs rfl ?_; intro s0 s1
 have e_w := x
 clear hd hs x
 refine exit_then ?_
 refine wp_seq ?_
 refine wp_reg 10 [[(0, none)], [(5, some 0)], [(1, none)], [(7, some 2)], [(6, some 1), (8, some 3)], [(9, some 4)]] [?b3_0, ?b3_1, ?b3_2, ?b3_3, ?b3_4, ?b3_4] mixed (by kernel_rfl) (by kernel_rfl) hr ?t3 ?o3 ?_
 case o3 =>
  refine oc0 (fun A W hx hf => ?_) ?_
  exact ok_movE (a0 := a2) (r0 hf)
  refine oc0 (fun A W hx hf => ?_) ?_
  exact ok_str Try.underlying22 Try.underlying5 Try.underlying9 (p2 s0 e_w hx (q0 ?b3_0 A W 5 hf))
  refine oc0 (fun A W hx hf => ?_) ?_
  exact ok_movE (a0 := a2) (r0 hf)
  refine oc0 (fun A W hx hf => ?_) ?_
  exact ok_str Try.underlying22 Try.underlying5 Try.underlying9 (p2 s1 e_w hx (q0 ?b3_2 A W 7 hf))
  refine oc0 (fun A W hx hf => ?_) ?_
  exact ok_eqs (q0 ?b3_1 A W 6 hf) (q1 ?b3_3 A W 8 hf)
  refine oc0 (fun A W hx hf => ?_) ?_
  exact ok_assign (q0 ?b3_4 A W 9 hf)
  exact OpsOk.nil
 case t3 => exact inferInstance
 clear hr; intro a4 w4 x hr hd hs
 clear s0 s1
 have s4 := fa ?b3_4 a4 w4 4 (hd 5 4 rfl)
 replace e_w := e_w.trans x
 clear hd hs x
 refine exit_then ?_
 refine wp_ret ?_
 refine ret_tmp Try.results15 hr e_w ?_
 exact Is.bool s4 (by rw [bstr_toList, bstr_toList])

end Go.Proofs.Ytdbjpfjnambenaa
