import Derived.Test.YtlmdboaghojgiaaC10
import Derived.Test.YtlmdboaghojgiaaC06
namespace Go.Proofs.Ytlmdboaghojgiaa
open Go.RowKit
set_option linter.unusedVariables false
set_option linter.unusedSimpArgs false
set_option maxRecDepth 4000

theorem Qka {x0 x1 : Value} {w : World} {q : Int} {l : List UInt8} (h0 : Is (.int .i64 q) x0 w) (h1 : Bs l x1 w) : Calls Try.prog 61 #[x0, x1] w (Ret (Tup2 (Is (Qcd (Q0i q l).1)) (Is (.int .i64 (Q0i q l).2))) w) := by
  by_cases h6 : q = 6
  · subst h6; exact Qf8 h0 h1
  · by_cases h17 : q = 17
    · subst h17; exact Qf9 h0 h1
    · rw [Q7z h6 h17]; exact Qe0 h0 h1 h6 h17
theorem Qm0 {x0 : Value} {w : World} {q : Int} (h0 : (Is (.int .i64 q)) x0 w)  :
    Calls Try.prog 45 #[x0] w (Ret (Is (.int .i64 (Q2f q))) w) := by
 refine enter Try.func45 rfl Try.ntmps45 (k := 1) rfl (by decide) (fun a0 hr hargs => ?_)
 have s0 := sarg h0 (hargs 0 (by decide))
 clear hargs
 refine sq ?_
 refine Q04 8 [[]] [?b1_0] Q08 hr ?t1 ?o1 ?_
 case o1 =>
  apply oc0; intro A W hx hf
  exact Q05
  exact onn
 case t1 => exact inferInstance
 clear hr; intro a2 w2 x hr hd hs
 revert s0; refine kp1 hs rfl ?_; intro s0
 have e_w := x; clear hd hs x
 refine es ?_
 refine sq ?_
 refine Q04 8 [[(0, none)]] [?b3_0] Q08 hr ?t3 ?o3 ?_
 case o3 =>
  apply oc0; intro A W hx hf
  exact Q01 (a0 := a2) (r0 hf)
  exact onn
 case t3 => exact inferInstance
 clear hr; intro a4 w4 x hr hd hs
 have u3 := mv s0 (fa ?b3_0 a4 w4 3 (hd 0 3 rfl))
 clear s0
 have s3 := u3; clear u3
 replace e_w := e_w.trans x; clear hd hs x
 refine et ?_
 refine wp_block ?_
 refine sq ?_
 refine Q04 8 [[(3, none)], [(5, some 0)]] [?b5_0, ?b5_0] Q08 hr ?t5 ?o5 ?_
 case o5 =>
  apply oc0; intro A W hx hf
  exact Q1i (o2 s3 e_w hx (r0 hf)) (ec A (.int .i64 6))
  apply oc0; intro A W hx hf
  exact Q03 (q0 ?b5_0 A W 5 hf)
  exact onn
 case t5 => exact inferInstance
 clear hr; intro a6 w6 x hr hd hs
 revert s3; refine kp1 hs rfl ?_; intro s3
 have s4 := fa ?b5_0 a6 w6 4 (hd 1 4 rfl)
 replace e_w := e_w.trans x; clear hd hs x
 refine et ?_
 refine wp_cond_split (show _ = _ from s4) (fun h6 => ?_) (fun h6 => ?_)
 ·
  skip
  refine sq ?_
  refine Q04 8 [[]] [?b8_0] Q08 hr ?t8 ?o8 ?_
  case o8 =>
   apply oc0; intro A W hx hf
   exact Q05
   exact onn
  case t8 => exact inferInstance
  clear hr; intro a9 w9 x hr hd hs
  clear s3 s4
  have s2 := fa ?b8_0 a9 w9 2 (hd 0 2 rfl)
  replace e_w := e_w.trans x; clear hd hs x
  refine et ?_
  refine wp_ret ?_
  refine Q1t ?_
  refine Q0e ?_
  refine Q0r Try.results45 hr e_w ?_
  exact Is.int s2 (by simp [Q2f] at *; simp [*])
 skip
 refine sq ?_
 refine Q04 8 [[(3, none)], [(7, some 0)]] [?b10_0, ?b10_0] Q08 hr ?t10 ?o10 ?_
 case o10 =>
  apply oc0; intro A W hx hf
  exact Q1i (o2 s3 e_w hx (r0 hf)) (ec A (.int .i64 17))
  apply oc0; intro A W hx hf
  exact Q03 (q0 ?b10_0 A W 7 hf)
  exact onn
 case t10 => exact inferInstance
 clear hr; intro a11 w11 x hr hd hs
 clear s3 s4
 have s6 := fa ?b10_0 a11 w11 6 (hd 1 6 rfl)
 replace e_w := e_w.trans x; clear hd hs x
 refine et ?_
 refine wp_cond_split (show _ = _ from s6) (fun h17 => ?_) (fun h17 => ?_)
 ·
  skip
  refine sq ?_
  refine Q04 8 [[]] [?b13_0] Q08 hr ?t13 ?o13 ?_
  case o13 =>
   apply oc0; intro A W hx hf
   exact Q05
   exact onn
  case t13 => exact inferInstance
  clear hr; intro a14 w14 x hr hd hs
  clear s6
  have s2 := fa ?b13_0 a14 w14 2 (hd 0 2 rfl)
  replace e_w := e_w.trans x; clear hd hs x
  refine et ?_
  refine wp_ret ?_
  refine Q1t ?_
  refine Q0e ?_
  refine Q0r Try.results45 hr e_w ?_
  exact Is.int s2 (by simp [Q2f] at *; simp [*])
 skip
 refine wp_skip ?_
 refine Q0x ?_
 refine es ?_
 refine Q04 8 [[]] [?b15_0] Q08 hr ?t15 ?o15 ?_
 case o15 =>
  apply oc0; intro A W hx hf
  exact Q05
  exact onn
 case t15 => exact inferInstance
 clear hr; intro a16 w16 x hr hd hs
 clear s6
 have s2 := fa ?b15_0 a16 w16 2 (hd 0 2 rfl)
 replace e_w := e_w.trans x; clear hd hs x
 refine et ?_
 refine wp_ret ?_
 refine Q0r Try.results45 hr e_w ?_
 exact Is.int s2 (by simp [Q2f] at *; simp [*])

end Go.Proofs.Ytlmdboaghojgiaa
