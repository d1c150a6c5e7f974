import Derived.Test.YtlmdboaghojgiaaC12b
import Derived.Test.YtlmdboaghojgiaaC06d
import Derived.Test.YtlmdboaghojgiaaC11r
import Derived.Test.YtlmdboaghojgiaaC11
import Derived.Test.YtlmdboaghojgiaaS12V
namespace Go.Proofs.Ytlmdboaghojgiaa
open Go.RowKit
set_option linter.unusedVariables false
set_option linter.unusedSimpArgs false
set_option maxRecDepth 4000
theorem Qoc {x0 x1 : Value} {w : World} {s9 : Bool} {Sa : Adr} (h0 : (Is (.bool s9)) x0 w) (h1 : (Is (AdrV Sa)) x1 w) (hA : Sa.b.length = 16) :
    Calls Try.prog 15 #[x0, x1] w (Ret (Is (.bool (ofB s9 Sa))) w) := by
 refine enter Try.func15 rfl Try.ntmps15 (k := 2) rfl (by decide) (fun a0 hr hargs => ?_)
 have s0 := sarg h0 (hargs 0 (by decide))
 have s1 := sarg h1 (hargs 1 (by decide))
 clear hargs
 refine sq ?_
 refine Q04 16 [[(1, none)], []] [?b1_0, ?b1_1] Q08 hr ?t1 ?o1 ?_
 case o1 =>
  apply oc0; intro A W hx hf
  exact Q1y [[.bool Sa.six], Sa.b.map Q0t] [1, 16] (Is.conv (o1 s1 hx (r0 hf)) (Q1o Sa).symm) (by simp [*]) hx.size
  apply oc0; intro A W hx hf
  exact Q05
  exact onn
 case t1 => exact inferInstance
 clear hr; intro a2 w2 x hr hd hs
 revert s0; refine kp1 hs rfl ?_; intro s0
 clear s1
 have s3 := fa ?b1_0 a2 w2 3 (hd 0 3 rfl)
 obtain ⟨g2_3, q2_3⟩ := PxN.at s3; clear s3; have n2_3 := PxS.lt q2_3
 have s3 := q2_3; clear q2_3
 have e_w := x; clear hd hs x
 refine es ?_
 refine Q04 16 [[(3, none)], [(5, some 0)], [(0, none)], [(6, some 1), (7, some 2)], [(8, some 3)], [(0, none), (9, some 4)], [(10, some 5), (9, some 4)], [(3, none), (11, some 6)], [(12, some 7), (11, some 6)], [(11, some 6), (13, some 8), (9, some 4)], [(9, some 4), (14, some 9)], [(15, some 10)]] [?b3_0, ?b3_1, ?b3_2, ?b3_3, ?b3_3, ?b3_5, ?b3_5, ?b3_7, ?b3_8, ?b3_9, ?b3_10, ?b3_10] Q08 hr ?t3 ?o3 ?_
 case o3 =>
  apply oc0; intro A W hx hf
  exact Q02 0 tu25 (k := 0) rfl Q4r rfl (o1 s3 hx (r0 hf)) rfl
  apply oc0; intro A W hx hf
  exact Q0a tu4 rfl (q0 ?b3_0 A W 5 hf) rfl
  apply oc0; intro A W hx hf
  exact Q01 (a0 := a2) (r0 hf)
  apply oc0; intro A W hx hf
  exact Qmh tu4 (q0 ?b3_1 A W 6 hf) (p2 s0 e_w hx (q1 ?b3_2 A W 7 hf))
  apply oc0; intro A W hx hf
  exact Q0h (q0 ?b3_3 A W 8 hf)
  refine ocg 9 ?_ (fun A W hx hf => ?_) ?_
  rfl
  exact gd_t (q1 ?b3_3 A W 9 hf) (fun hc => Q01 (a0 := a2) (r0 hf))
  refine ocg 9 ?_ (fun A W hx hf => ?_) ?_
  rfl
  exact gd_t (q1 ?b3_3 A W 9 hf) (fun hc => Q0h (G.get (q0 ?b3_5 A W 10 hf) hc))
  refine ocg 11 ?_ (fun A W hx hf => ?_) ?_
  rfl
  exact Qgw (G.al (Q00 (e_w.trans hx) s0) (q1 ?b3_5 A W 11 hf)) (fun hc => Q0b 2 tu25 rfl Q0z (o1 s3 hx (r0 hf)) rfl)
  refine ocg 11 ?_ (fun A W hx hf => ?_) ?_
  rfl
  exact Qgw (G.al (Q00 (e_w.trans hx) s0) (q1 ?b3_5 A W 11 hf)) (fun hc => Q18 Qij (Qai (Is.conv (G.get (q0 ?b3_7 A W 12 hf) hc) (Q1o Sa)) (by exact hA)))
  refine ocg 9 ?_ (fun A W hx hf => ?_) ?_
  rfl
  exact gd_t (q2 ?b3_3 A W 9 hf) (fun hc => Q3o (p2 s0 e_w hx (G.get (q0 ?b3_5 A W 11 hf) hc)) (G.strip hc (q1 ?b3_8 A W 13 hf)))
  apply oc0; intro A W hx hf
  exact Q2p (q0 ?b3_3 A W 9 hf) (q1 ?b3_9 A W 14 hf)
  apply oc0; intro A W hx hf
  exact Q03 (q0 ?b3_10 A W 15 hf)
  exact onn
 case t3 => exact inferInstance
 clear hr; intro a4 w4 x hr hd hs
 clear s0 s3
 have s4 := fa ?b3_10 a4 w4 4 (hd 11 4 rfl)
 replace e_w := e_w.trans x; clear hd hs x
 refine et ?_
 refine wp_ret ?_
 refine Q0r Try.results15 hr e_w ?_
 exact Is.bool s4 rfl

end Go.Proofs.Ytlmdboaghojgiaa
