import Derived.Test.YtlmdboaghojgiaaC08
import Derived.Test.YtlmdboaghojgiaaS12W
import Derived.Test.YtlmdboaghojgiaaC01
namespace Go.Proofs.Ytlmdboaghojgiaa
open Go.RowKit
set_option linter.unusedVariables false
set_option linter.unusedSimpArgs false
set_option maxRecDepth 4000
theorem Qs5 {x0 : Value} {w : World} {c : UInt8} (h0 : (ByteIs c) x0 w)  :
    Calls Try.prog 63 #[x0] w (Ret (Is (.bool (c != 0))) w) := by
 refine enter Try.func63 rfl Try.ntmps63 (k := 1) rfl (by decide) (fun a0 hr hargs => ?_)
 have s0 := sarg h0 (hargs 0 (by decide))
 clear hargs
 refine sq ?_
 refine Q04 5 [[]] [?b1_0] Q08 hr ?t1 ?o1 ?_
 case o1 =>
  apply oc0; intro A W hx hf
  exact Q05
  exact onn
 case t1 => exact inferInstance
 clear hr; intro a2 w2 x hr hd hs
 revert s0; refine kp1 hs rfl ?_; intro s0
 have e_w := x; clear hd hs x
 refine es ?_
 refine Q04 5 [[(0, none)], [(3, some 0)], [(4, some 1)]] [?b3_0, ?b3_1, ?b3_1] Q08 hr ?t3 ?o3 ?_
 case o3 =>
  apply oc0; intro A W hx hf
  exact Q01 (a0 := a2) (r0 hf)
  apply oc0; intro A W hx hf
  exact Q48 (p2 s0 e_w hx (q0 ?b3_0 A W 3 hf)) (ec A (.int .u8 0))
  apply oc0; intro A W hx hf
  exact Q03 (q0 ?b3_1 A W 4 hf)
  exact onn
 case t3 => exact inferInstance
 clear hr; intro a4 w4 x hr hd hs
 clear s0
 have s2 := fa ?b3_1 a4 w4 2 (hd 2 2 rfl)
 replace e_w := e_w.trans x; clear hd hs x
 refine et ?_
 refine wp_ret ?_
 refine Q0r Try.results63 hr e_w ?_
 exact Is.bool s2 (Qjh c)

theorem c_of {x0 x1 : Value} {w : World} {s9 : Bool} {Sa : Adr} (h0 : (Is (.bool s9)) x0 w) (h1 : (Is (AdrV Sa)) x1 w) (hA : Sa.b.length = 16) :
    Calls Try.prog 38 #[x0, x1] w (Ret (Is (.bool (ofB s9 Sa))) w) := by
 refine enter Try.func38 rfl Try.ntmps38 (k := 2) rfl (by decide) (fun a0 hr hargs => ?_)
 have s0 := sarg h0 (hargs 0 (by decide))
 have s1 := sarg h1 (hargs 1 (by decide))
 clear hargs
 refine sq ?_
 refine Q04 18 [[(1, none)], []] [?b1_0, ?b1_1] Q08 hr ?t1 ?o1 ?_
 case o1 =>
  apply oc0; intro A W hx hf
  exact Q1y [[.bool Sa.six], Sa.b.map Q0t] [1, 16] (Is.conv (o1 s1 hx (r0 hf)) (Q1o Sa).symm) (by simp [*]) hx.size
  apply oc0; intro A W hx hf
  exact Q05
  exact onn
 case t1 => exact inferInstance
 clear hr; intro a2 w2 x hr hd hs
 revert s0; refine kp1 hs rfl ?_; intro s0
 clear s1
 have s3 := fa ?b1_0 a2 w2 3 (hd 0 3 rfl)
 obtain ⟨g2_3, q2_3⟩ := PxN.at s3; clear s3; have n2_3 := PxS.lt q2_3
 have s3 := q2_3; clear q2_3
 have e_w := x; clear hd hs x
 refine es ?_
 refine Q04 18 [[(3, none)], [(5, some 0)], [(0, none)], [(6, some 1), (7, some 2)], [(8, some 3)], [(0, none), (9, some 4)], [(10, some 5), (9, some 4)], [(3, none), (11, some 6)], [(12, some 7), (11, some 6)], [(13, some 8), (11, some 6)], [(14, some 9), (11, some 6)], [(11, some 6), (15, some 10), (9, some 4)], [(9, some 4), (16, some 11)], [(17, some 12)]] [?b3_0, ?b3_1, ?b3_2, ?b3_3, ?b3_3, ?b3_5, ?b3_5, ?b3_7, ?b3_8, ?b3_9, ?b3_10, ?b3_11, ?b3_12, ?b3_12] Q08 hr ?t3 ?o3 ?_
 case o3 =>
  apply oc0; intro A W hx hf
  exact Q02 0 tu25 (k := 0) rfl Q4r rfl (o1 s3 hx (r0 hf)) rfl
  apply oc0; intro A W hx hf
  exact Q0a tu4 rfl (q0 ?b3_0 A W 5 hf) rfl
  apply oc0; intro A W hx hf
  exact Q01 (a0 := a2) (r0 hf)
  apply oc0; intro A W hx hf
  exact Qmh tu4 (q0 ?b3_1 A W 6 hf) (p2 s0 e_w hx (q1 ?b3_2 A W 7 hf))
  apply oc0; intro A W hx hf
  exact Q0h (q0 ?b3_3 A W 8 hf)
  refine ocg 9 ?_ (fun A W hx hf => ?_) ?_
  rfl
  exact gd_t (q1 ?b3_3 A W 9 hf) (fun hc => Q01 (a0 := a2) (r0 hf))
  refine ocg 9 ?_ (fun A W hx hf => ?_) ?_
  rfl
  exact gd_t (q1 ?b3_3 A W 9 hf) (fun hc => Q0h (G.get (q0 ?b3_5 A W 10 hf) hc))
  refine ocg 11 ?_ (fun A W hx hf => ?_) ?_
  rfl
  exact Qgw (G.al (Q00 (e_w.trans hx) s0) (q1 ?b3_5 A W 11 hf)) (fun hc => Q02 1 tu25 (k := 1) rfl Q61 rfl (o1 s3 hx (r0 hf)) rfl)
  refine ocg 11 ?_ (fun A W hx hf => ?_) ?_
  rfl
  exact Qgw (G.al (Q00 (e_w.trans hx) s0) (q1 ?b3_5 A W 11 hf)) (fun hc => Qh4 (4) tu23 Q0s (G.get (q0 ?b3_7 A W 12 hf) hc) rfl (ec A (.int .i64 4)) (by simp [hA]))
  refine ocg 11 ?_ (fun A W hx hf => ?_) ?_
  rfl
  exact Qgw (G.al (Q00 (e_w.trans hx) s0) (q1 ?b3_5 A W 11 hf)) (fun hc => Q0p Qq2 (Qb2 (SxS.lo (G.get (q0 ?b3_8 A W 13 hf) hc) rfl (by decide)) (show Is (FnV 63) (A.eval (.func 63)) _ from rfl) Qq3 fun c x w hc => Qs5 hc))
  refine ocg 11 ?_ (fun A W hx hf => ?_) ?_
  rfl
  exact Qgw (G.al (Q00 (e_w.trans hx) s0) (q1 ?b3_5 A W 11 hf)) (fun hc => Q43 (G.get (q0 ?b3_9 A W 14 hf) hc))
  refine ocg 9 ?_ (fun A W hx hf => ?_) ?_
  rfl
  exact gd_t (q2 ?b3_3 A W 9 hf) (fun hc => Q3o (p2 s0 e_w hx (G.get (q0 ?b3_5 A W 11 hf) hc)) (G.strip hc (q1 ?b3_10 A W 15 hf)))
  apply oc0; intro A W hx hf
  exact Q2p (q0 ?b3_3 A W 9 hf) (q1 ?b3_11 A W 16 hf)
  apply oc0; intro A W hx hf
  exact Q03 (q0 ?b3_12 A W 17 hf)
  exact onn
 case t3 => exact inferInstance
 clear hr; intro a4 w4 x hr hd hs
 clear s0 s3
 have s4 := fa ?b3_12 a4 w4 4 (hd 13 4 rfl)
 replace e_w := e_w.trans x; clear hd hs x
 refine et ?_
 refine wp_ret ?_
 refine Q0r Try.results38 hr e_w ?_
 exact Is.bool s4 Qix

theorem Qn5 {x0 x1 : Value} {w : World} {l : List UInt8} {i : Nat} (h0 : (Bs l) x0 w) (h1 : (Is (.int .i64 (i : Int))) x1 w) (hi9 : i + 2 ≤ l.length) :
    Calls Try.prog 44 #[x0, x1] w (Ret (Is (.int .u16 (Q07 l i))) w) := by
 have hlen := Bs.len_le h0
 have hwb := Q0w l i
 refine enter Try.func44 rfl Try.ntmps44 (k := 2) rfl (by decide) (fun a0 hr hargs => ?_)
 have s0 := sarg h0 (hargs 0 (by decide))
 have s1 := sarg h1 (hargs 1 (by decide))
 clear hargs
 refine sq ?_
 refine Q04 12 [[]] [?b1_0] Q08 hr ?t1 ?o1 ?_
 case o1 =>
  apply oc0; intro A W hx hf
  exact Q05
  exact onn
 case t1 => exact inferInstance
 clear hr; intro a2 w2 x hr hd hs
 revert s1; revert s0; refine kp2 hs rfl ?_; intro s0 s1
 have e_w := x; clear hd hs x
 refine es ?_
 refine Q04 12 [[(0, none)], [(1, none)], [(1, none)], [(7, some 2)], [(5, some 0), (6, some 1), (8, some 3)], [(9, some 4)], [(10, some 5)], [(11, some 6)]] [?b3_0, ?b3_1, ?b3_2, ?b3_3, ?b3_4, ?b3_5, ?b3_6, ?b3_6] Q08 hr ?t3 ?o3 ?_
 case o3 =>
  apply oc0; intro A W hx hf
  exact Q01 (a0 := a2) (r0 hf)
  apply oc0; intro A W hx hf
  exact Q01 (a0 := a2) (r0 hf)
  apply oc0; intro A W hx hf
  exact Q01 (a0 := a2) (r0 hf)
  apply oc0; intro A W hx hf
  exact Q0o (p2 s1 e_w hx (q0 ?b3_2 A W 7 hf)) (ec A (.int .i64 2)) (by omega)
  apply oc0; intro A W hx hf
  exact Q3x (i) (i + 2) tu22 Q0s (p2 s0 e_w hx (q0 ?b3_0 A W 5 hf)) (p2 s1 e_w hx (q1 ?b3_1 A W 6 hf)) (Is.int (q2 ?b3_3 A W 8 hf) (by omega)) (by omega) (by omega)
  apply oc0; intro A W hx hf
  exact Q0p Qdc (Qk2 (q0 ?b3_4 A W 9 hf) (show Is (.bool true) (A.eval (.const (.bool true))) _ from rfl))
  apply oc0; intro A W hx hf
  exact Q2d tu84 tu86 (by rw [Qdg hi9]; exact IntWalk.u16_in _ (by omega)) (q0 ?b3_5 A W 10 hf)
  apply oc0; intro A W hx hf
  exact Q03 (q0 ?b3_6 A W 11 hf)
  exact onn
 case t3 => exact inferInstance
 clear hr; intro a4 w4 x hr hd hs
 clear s0 s1
 have s4 := fa ?b3_6 a4 w4 4 (hd 7 4 rfl)
 replace e_w := e_w.trans x; clear hd hs x
 refine et ?_
 refine wp_ret ?_
 refine Q0r Try.results44 hr e_w ?_
 exact Is.int s4 (Qdg hi9)

theorem Qn6 {x0 x1 x2 : Value} {w : World} {l : List UInt8} {i : Nat} {n : Int} {β B : Nat} (h0 : (OwnBA β B 5 l) x0 w) (h1 : (Is (.int .i64 (i : Int))) x1 w) (h2 : (Is (.int .u16 n)) x2 w) (hi9 : i + 2 ≤ l.length) (hn9 : 0 ≤ n ∧ n ≤ 65535) :
    Calls Try.prog 42 #[x0, x1, x2] w (RetW β l (Q27 l i (put2 n)) VP.top w) := by
 refine enter Try.func42 rfl Try.ntmps42 (k := 3) rfl (by decide) (fun a0 hr hargs => ?_)
 have s0 := sarg h0 (hargs 0 (by decide))
 have s1 := sarg h1 (hargs 1 (by decide))
 have s2 := sarg h2 (hargs 2 (by decide))
 have c_w : ChgAt β w w := ChgAt.refl _ _
 have u_w : UpB β l l w w := UpB.refl
 clear hargs
 refine Q1s Q08 (fun w1 x => ?_)
 show wpAny _ _ _ _ 7 _ _ _
 replace c_w := c_w.ext x; replace u_w := u_w.ext x
 have e_w := x
 clear x
 refine Q60 (l := [_, _, _, _, _, _, _]) 13 _ [false, false, false, false, false, false, true] [6] [[(0, none)], [(1, none)], [(6, some 0), (7, some 1)], [(2, none)], [(9, some 3)], [(10, some 4)], []] [?b2_0, ?b2_1, ?b2_2, ?b2_3, ?b2_4, ?b2_5, VP.top] (by kernel_rfl) rfl (by kernel_rfl) hr ?t2 ?o2 ?_
 case o2 =>
  apply lc0; intro A W hx hf
  exact Q01 (a0 := a0) (r0 hf)
  apply lc0; intro A W hx hf
  exact Q01 (a0 := a0) (r0 hf)
  apply lc0; intro A W hx hf
  exact Qeh (i) tu22 Q0s (p2 s0 e_w hx (q0 ?b2_0 A W 6 hf)) (p2 s1 e_w hx (q1 ?b2_1 A W 7 hf)) (by omega)
  apply lc0; intro A W hx hf
  exact Q01 (a0 := a0) (r0 hf)
  apply lc0; intro A W hx hf
  exact Q2d tu86 tu84 (by exact IntWalk.u64_in _ (by omega)) (p2 s2 e_w hx (q0 ?b2_3 A W 9 hf))
  apply lc0; intro A W hx hf
  exact Q2y Qmn (Qrd (q0 ?b2_4 A W 10 hf) (show Is (.int .i64 2) (A.eval (.const (.int .i64 2))) _ from rfl) (show Is (.bool true) (A.eval (.const (.bool true))) _ from rfl) (by omega) hx.size)
  refine lcs ?_
  exact lcn
 case t2 => exact inferInstance
 clear hr; intro a3 w3 x hr hd hs
 have z_w_w1 := e_w.size
 have l3_0 := OwnBA.lt (Q00 e_w s0)
 have u6 := mv s0 (fa ?b2_0 a3 w3 6 (hd 0 6 rfl rfl))
 have u7 := mv s1 (fa ?b2_1 a3 w3 7 (hd 1 7 rfl rfl))
 have u9 := mv s2 (fa ?b2_3 a3 w3 9 (hd 3 9 rfl rfl))
 revert s2; revert s1; revert s0; refine kp3 hs rfl ?_; intro s0 s1 s2
 have s6 := u6; clear u6
 have s7 := u7; clear u7
 have s9 := u9; clear u9
 have s8 := fa ?b2_2 a3 w3 8 (hd 2 8 rfl rfl)
 have s10 := fa ?b2_4 a3 w3 10 (hd 4 10 rfl rfl)
 have s11 := fa ?b2_5 a3 w3 11 (hd 5 11 rfl rfl)
 obtain ⟨g3_11, q3_11⟩ := OwnB.at s11; clear s11; have n3_11 := OwnBA.lt q3_11
 replace q3_11 := OwnBA.mono q3_11 e_w.size
 have s11 := q3_11; clear q3_11
 replace c_w := c_w.ext x; replace u_w := u_w.ext x
 replace e_w := e_w.trans x; clear hd hs x
 show wpList _ _ _ [_] _ _
 refine Qbt hr tu22 Q0s s8 (OwnBA.bs s11) ?_; clear hr; intro a4 w4 hc hu hr hs
 clear s0 s1 s2 s6 s7 s9 s8 s10 s11
 replace c_w := c_w.trans hc; replace u_w := u_w.trans hu
 clear e_w
 clear hu hs hc
 refine wpList_nil ?_
 refine Qpf Try.results42 hr c_w (u_w.cast (Q9s (a := put2 n) (by rw [Q0d]; exact hi9))) trivial

theorem Qlz {x0 : Value} {w : World} {l : List UInt8} {B : Nat} (h0 : (Bs l) x0 w) (hn9 : l.length ≤ 1000000000000) (hB : B ≤ w.heap.size) :
    Calls Try.prog 39 #[x0] w (Ret (OwnB B 5 l) w) := by
 have hlen := Bs.len_le h0
 refine enter Try.func39 rfl Try.ntmps39 (k := 1) rfl (by decide) (fun a0 hr hargs => ?_)
 have s0 := sarg h0 (hargs 0 (by decide))
 clear hargs
 refine sq ?_
 refine Q04 8 [[]] [?b1_0] Q08 hr ?t1 ?o1 ?_
 case o1 =>
  apply oc0; intro A W hx hf
  exact Q1l (OwnBA 0 w.heap.size 5 []) (fun _ => Q2o)
  exact onn
 case t1 => exact inferInstance
 clear hr; intro a2 w2 x hr hd hs
 revert s0; refine kp1 hs rfl ?_; intro s0
 have e_w := x; clear hd hs x
 refine es ?_
 refine sq ?_
 refine Q04 8 [[(0, none)], [(3, some 0)]] [?b3_0, ?b3_1] Q08 hr ?t3 ?o3 ?_
 case o3 =>
  apply oc0; intro A W hx hf
  exact Q01 (a0 := a2) (r0 hf)
  apply oc0; intro A W hx hf
  exact Ql3 Try.underlying22 (p2 s0 e_w hx (q0 ?b3_0 A W 3 hf))
  exact onn
 case t3 => exact inferInstance
 clear hr; intro a4 w4 x hr hd hs
 revert s0; refine kp1 hs rfl ?_; intro s0
 have s4 := fa ?b3_1 a4 w4 4 (hd 1 4 rfl)
 replace e_w := e_w.trans x; clear hd hs x
 obtain ⟨b9, s4, hb9⟩ := s4
 refine et ?_
 refine wp_cond_split (show _ = _ from s4) (fun hn => ?_) (fun hn => ?_)
 ·
  skip
  refine sq ?_
  refine Q04 8 [[]] [?b6_0] Q08 hr ?t6 ?o6 ?_
  case o6 =>
   apply oc0; intro A W hx hf
   exact Q1l (OwnBA 0 w.heap.size 5 []) (fun _ => Q2o)
   exact onn
  case t6 => exact inferInstance
  clear hr; intro a7 w7 x hr hd hs
  clear s0 s4
  have s2 := fa ?b6_0 a7 w7 2 (hd 0 2 rfl)
  replace e_w := e_w.trans x; clear hd hs x
  refine et ?_
  refine wp_ret ?_
  refine Q0e ?_
  refine Q0r Try.results39 hr e_w ?_
  first | exact OwnB.cast (OwnB.mono s2.own hB) (hb9 hn).symm | exact OwnB.cast (OwnB.mono s2.own hB) (by simp)
 skip
 refine wp_skip ?_
 refine es ?_
 refine Q06 (l := [_, _]) (rest := [_, _]) 8 [[], [(0, none)]] [?b8_0, ?b8_1] hr ?t8 ?o8 ?_
 case o8 =>
  apply oc0; intro A W hx hf
  exact Q3c [] [] tu22 Q0s Q45 rfl rfl (by decide) hx.size (PartsOk.nil)
  apply oc0; intro A W hx hf
  exact Q01 (a0 := a4) (r0 hf)
  exact onn
 case t8 => exact inferInstance
 clear hr; intro a9 w9 x hr hd hs
 have z_w_w4 := e_w.size
 have u6 := mv s0 (fa ?b8_1 a9 w9 6 (hd 1 6 rfl))
 clear s0 s4
 have s6 := u6; clear u6
 have s5 := fa ?b8_0 a9 w9 5 (hd 0 5 rfl)
 obtain ⟨g9_5, q9_5⟩ := OwnB.at s5; clear s5; have n9_5 := OwnBA.lt q9_5
 replace q9_5 := OwnBA.mono q9_5 e_w.size
 have s5 := q9_5; clear q9_5
 replace e_w := e_w.trans x; clear hd hs x
 have l10 := OwnBA.lt s5
 refine Q0u hr (by decide) tu22 Q3u rfl s5 (Q00 e_w s6) e_w.size (by first | (simp; done) | (simp; omega)) ?_; clear hr; intro g10 a10 w10 hg10 hc hr hd hs
 have hb := hc.below e_w.size l10.1
 clear s6 s5
 have s7 := hd
 replace e_w := e_w.below (Nat.le_refl _) hb
 clear hd hs hb hc
 refine Q11 hr (Q03 s7) inferInstance ?_; clear hr; intro a11 w11 x hr hd hs
 clear s7
 have s2 := hd 2 rfl (by decide)
 replace e_w := e_w.trans x; clear hd hs x
 refine wpList_nil ?_
 refine et ?_
 refine wp_ret ?_
 refine Q0r Try.results39 hr e_w ?_
 first | exact OwnB.cast (OwnB.mono s2.own hB) (hb9 hn).symm | exact OwnB.cast (OwnB.mono s2.own hB) (by simp)

def Qbe : List Tmp := [16, 17, 18, 19, 20, 21]
def Qbf : List Tmp := [23, 24, 25, 26, 27, 28, 29, 30, 31, 32]
theorem Qrc {x0 x1 : Value} {w : World} {p : PktL} {dst : Bool} (h0 : (Is (PktV p)) x0 w) (h1 : (Is (.bool dst)) x1 w) (hp9 : Qek p) (hb9 : (0 ≤ p.net ∧ p.net ≤ 1000000) ∧ 0 ≤ p.seg ∧ p.seg ≤ 1000000) :
    Calls Try.prog 40 #[x0, x1] w (Ret (Is (PlcV (Qby p dst))) w) := by
 refine enter Try.func40 rfl Try.ntmps40 (k := 2) rfl (by decide) (fun a0 hr hargs => ?_)
 have s0 := sarg h0 (hargs 0 (by decide))
 have s1 := sarg h1 (hargs 1 (by decide))
 clear hargs
 refine sq ?_
 refine Q06 (l := [_]) (rest := [_]) 34 [[(0, none)]] [?b1_0] hr ?t1 ?o1 ?_
 case o1 =>
  apply oc0; intro A W hx hf
  exact Q1y (pktF p) [1, 1, 16, 1, 16, 1, 1, 1, 1, 1, 1, 1] (Is.conv (o1 s0 hx (r0 hf)) (Qit p).symm) (by exact Qdf hp9) hx.size
  exact onn
 case t1 => exact inferInstance
 clear hr; intro a2 w2 x hr hd hs
 revert s1; refine kp1 hs rfl ?_; intro s1
 clear s0
 have s2 := fa ?b1_0 a2 w2 2 (hd 0 2 rfl)
 obtain ⟨g2_2, q2_2⟩ := PxN.at s2; clear s2; have n2_2 := PxS.lt q2_2
 have s2 := q2_2; clear q2_2
 have e_w := x; clear hd hs x
 have l3_2 := PxS.lt s2
 refine Q11 hr (Q0y [(plcS plc0).flatten] [3] Qej (by rfl) (by rfl) (Nat.le_refl _)) inferInstance ?_; clear hr; intro a3 w3 x hr hd hs
 revert s2; revert s1; refine kp2 hs rfl ?_; intro s1 s2
 have s4 := hd 4 rfl (by decide)
 obtain ⟨g3_4, q3_4⟩ := PxN.at s4; clear s4; have n3_4 := PxS.lt q3_4
 replace q3_4 := PxS.mono q3_4 e_w.size
 have s4 := q3_4; clear q3_4
 replace e_w := e_w.trans x
 have e_w2 := x; clear hd hs x
 refine wpList_nil ?_
 refine es ?_
 refine Q06 (l := [_, _, _, _, _, _, _]) (rest := [_]) 34 [[(2, none)], [(6, some 0)], [(7, some 1)], [(2, none)], [(9, some 3)], [(8, some 2), (10, some 4)], []] [?b4_0, ?b4_1, ?b4_2, ?b4_3, ?b4_4, ?b4_5, ?b4_6] hr ?t4 ?o4 ?_
 case o4 =>
  apply oc0; intro A W hx hf
  exact Q02 9 tu37 (k := 3) rfl Q0m rfl (o2 s2 e_w2 hx (r0 hf)) rfl
  apply oc0; intro A W hx hf
  exact Q0a tu3 rfl (q0 ?b4_0 A W 6 hf) rfl
  apply oc0; intro A W hx hf
  exact Q0o (q0 ?b4_1 A W 7 hf) (ec A (.int .i64 12)) (by omega)
  apply oc0; intro A W hx hf
  exact Q02 10 tu37 (k := 4) rfl Q0m rfl (o2 s2 e_w2 hx (r0 hf)) rfl
  apply oc0; intro A W hx hf
  exact Q0a tu3 rfl (q0 ?b4_3 A W 9 hf) rfl
  apply oc0; intro A W hx hf
  exact Q1e [(0, (.tmp 8)), (1, (.const (.int .i64 4))), (2, (.tmp 10))] [(0, _), (1, _), (2, _)] Qqj rfl (PartsC.one (q0 ?b4_2 A W 8 hf) rfl (PartsC.one (ec A (.int .i64 4)) rfl (PartsC.one (q1 ?b4_4 A W 10 hf) rfl (PartsC.nil)))) (by rfl)
  apply oc0; intro A W hx hf
  exact Q0y (plcS plc0) [1, 1, 1] Qej (by rfl) (by rfl) hx.size
  exact onn
 case t4 => exact inferInstance
 clear hr; intro a5 w5 x hr hd hs
 have z_w_w3 := e_w.size
 have z_w2_w3 := e_w2.size
 have l5_2 := PxS.lt (Q00 e_w2 s2)
 have l5_4 := PxS.lt s4
 revert s4; revert s2; revert s1; refine kp3 hs rfl ?_; intro s1 s2 s4
 have s11 := fa ?b4_5 a5 w5 11 (hd 5 11 rfl)
 have s5 := fa ?b4_6 a5 w5 5 (hd 6 5 rfl)
 obtain ⟨g5_5, q5_5⟩ := PxN.at s5; clear s5; have n5_5 := PxS.lt q5_5
 replace q5_5 := PxS.mono q5_5 e_w.size
 have s5 := q5_5; clear q5_5
 replace e_w := e_w.trans x
 replace e_w2 := e_w2.trans x
 have e_w3 := x; clear hd hs x
 have z6 := PxS.lt s5
 have l6 := (show (g5_5 = 0 ∨ w.heap.size < g5_5) ∧ True from ⟨by omega, trivial⟩)
 have l6_2 := PxS.lt (Q00 e_w2 s2)
 have l6_4 := PxS.lt (Q00 e_w3 s4)
 refine Q19 (plcS ⟨p.net + 12, 4, p.seg⟩) hr Qb9 s5 (Is.conv s11 (show _ = Value.agg (plcS ⟨p.net + 12, 4, p.seg⟩).flatten.toArray from rfl)) (by rfl) (by exact Qbx) rfl ?_; clear hr; intro a6 w6 hc hu hr hs
 have hb : Below w.heap.size w5 w6 := hc.below e_w.size l6.1
 revert s5; revert s4; revert s2; revert s1; refine kp4 hs rfl ?_; intro s1 s2 s4 s5
 clear s11
 replace s2 := PxS.other (Q00 e_w2 s2) hc (by omega)
 replace s4 := PxS.other (Q00 e_w3 s4) hc (by omega)
 replace s5 := hu _ _ _ s5
 try simp only [List.set_cons_zero, List.set_cons_succ, pktF, plcS] at s5
 replace e_w := e_w.below (Nat.le_refl _) hb
 clear e_w2
 clear e_w3
 clear hu hs hc hb
 refine wpList_nil ?_
 refine es ?_
 refine sq ?_
 refine Q04 34 [[(2, none)], [(12, some 0)], [(13, some 1)], [(14, some 2)]] [?b7_0, ?b7_1, ?b7_2, ?b7_3] Q08 hr ?t7 ?o7 ?_
 case o7 =>
  apply oc0; intro A W hx hf
  exact Q02 1 tu37 (k := 1) rfl Q37 rfl (o1 s2 hx (r0 hf)) rfl
  apply oc0; intro A W hx hf
  exact Q02 1 tu35 (k := 0) rfl Q0z rfl (q0 ?b7_0 A W 12 hf) rfl
  apply oc0; intro A W hx hf
  exact Q02 1 tu25 (k := 0) rfl Q4r rfl (q0 ?b7_1 A W 13 hf) rfl
  apply oc0; intro A W hx hf
  exact Q0a tu4 rfl (q0 ?b7_2 A W 14 hf) rfl
  exact onn
 case t7 => exact inferInstance
 clear hr; intro a8 w8 x hr hd hs
 revert s5; revert s4; revert s2; revert s1; refine kp4 hs rfl ?_; intro s1 s2 s4 s5
 have s15 := fa ?b7_3 a8 w8 15 (hd 3 15 rfl)
 replace e_w := e_w.trans x
 have e_w6 := x; clear hd hs x
 refine et ?_
 refine Q33 (fun A W => Fr 34 A ∧ Same Qbe a8 A ∧ Ext w W ∧ ((plcA p).size = 4 ∨ (plcA p).size = 16) ∧ (0 ≤ (plcA p).addr ∧ (plcA p).addr ≤ 1000012) ∧ ((plcA p).port = p.seg) ∧ (PxS g3_4 w.heap.size [3] [(plcS plc0).flatten] 0) (A.eval (.tmp 4)) W ∧ (PxS g5_5 w.heap.size [1, 1, 1] (plcS (plcA p)) 0) (A.eval (.tmp 5)) W) ?cut9 ?_
 case cut9 =>
  have m9 : Same Qbe a8 a8 := Same.rfl
  refine wp_cond_split (show _ = _ from s15) (fun h6 => ?_) (fun h6 => ?_)
  ·
   skip
   refine Q06 (l := [_, _, _, _, _, _]) (rest := [_]) 34 [[(2, none)], [(16, some 0)], [(17, some 1)], [(2, none)], [(19, some 3)], [(18, some 2), (20, some 4)]] [?b11_0, ?b11_1, ?b11_2, ?b11_3, ?b11_4, ?b11_5] hr ?t11 ?o11 ?_
   case o11 =>
    apply oc0; intro A W hx hf
    exact Q02 9 tu37 (k := 3) rfl Q0m rfl (o2 s2 e_w6 hx (r0 hf)) rfl
    apply oc0; intro A W hx hf
    exact Q0a tu3 rfl (q0 ?b11_0 A W 16 hf) rfl
    apply oc0; intro A W hx hf
    exact Q0o (q0 ?b11_1 A W 17 hf) (ec A (.int .i64 8)) (by omega)
    apply oc0; intro A W hx hf
    exact Q02 10 tu37 (k := 4) rfl Q0m rfl (o2 s2 e_w6 hx (r0 hf)) rfl
    apply oc0; intro A W hx hf
    exact Q0a tu3 rfl (q0 ?b11_3 A W 19 hf) rfl
    apply oc0; intro A W hx hf
    exact Q1e [(0, (.tmp 18)), (1, (.const (.int .i64 16))), (2, (.tmp 20))] [(0, _), (1, _), (2, _)] Qqj rfl (PartsC.one (q0 ?b11_2 A W 18 hf) rfl (PartsC.one (ec A (.int .i64 16)) rfl (PartsC.one (q1 ?b11_4 A W 20 hf) rfl (PartsC.nil)))) (by rfl)
    exact onn
   case t11 => exact inferInstance
   clear hr; intro a12 w12 x hr hd hs
   revert s5; revert s4; revert s1; refine kp3 hs rfl ?_; intro s1 s4 s5
   clear s2 s15
   have s21 := fa ?b11_5 a12 w12 21 (hd 5 21 rfl)
   replace e_w := e_w.trans x
   replace e_w6 := e_w6.trans x
   replace m9 := m9.tr hs rfl; clear hd hs x
   have z13 := PxS.lt (Q00 e_w6 s5)
   have l13 := (show (g5_5 = 0 ∨ w.heap.size < g5_5) ∧ True from ⟨by omega, trivial⟩)
   have l13_4 := PxS.lt (Q00 e_w6 s4)
   refine Q19 (plcS ⟨p.net + 8, 16, p.seg⟩) hr Qb9 (Q00 e_w6 s5) (Is.conv s21 (show _ = Value.agg (plcS ⟨p.net + 8, 16, p.seg⟩).flatten.toArray from rfl)) (by rfl) (by exact Qbx) rfl ?_; clear hr; intro a13 w13 hc hu hr hs
   have hb : Below w.heap.size w12 w13 := hc.below e_w.size l13.1
   revert s5; revert s4; revert s1; refine kp3 hs rfl ?_; intro s1 s4 s5
   clear s21
   replace s4 := PxS.other (Q00 e_w6 s4) hc (by omega)
   replace s5 := hu _ _ _ (Q00 e_w6 s5)
   try simp only [List.set_cons_zero, List.set_cons_succ, pktF, plcS] at s5
   replace e_w := e_w.below (Nat.le_refl _) hb
   clear e_w6
   replace m9 := m9.tr hs rfl
   clear hu hs hc hb
   refine wpList_nil ?_
   refine et ?_
   refine ⟨hr, m9, e_w, (by unfold plcA; split <;> simp), (by unfold plcA; simp only []; split <;> omega), (by rfl), ?_, ?_⟩
   · exact s4
   · exact PxS.cast s5 (by unfold plcA; rw [h6]; rfl)
  skip
  refine wp_skip ?_
  refine et ?_
  refine ⟨hr, m9, e_w, (by unfold plcA; split <;> simp), (by unfold plcA; simp only []; split <;> omega), (by rfl), ?_, ?_⟩
  · exact (Q00 e_w6 s4)
  · exact PxS.cast (Q00 e_w6 s5) (by unfold plcA; rw [h6]; rfl)
 intro a9 w9 hI
 clear e_w
 clear e_w6
 clear hr; obtain ⟨hr, hs, e_w, hq1, hq2, hq3, u4, u5⟩ := hI
 revert s1; refine kp1 hs rfl ?_; intro s1
 clear s2 s4 s5 s15
 have s4 := u4; clear u4
 have s5 := u5; clear u5
 clear hs
 refine sq ?_
 refine sq ?_
 refine Q04 34 [[(1, none)]] [?b14_0] Q08 hr ?t14 ?o14 ?_
 case o14 =>
  apply oc0; intro A W hx hf
  exact Q01 (a0 := a9) (r0 hf)
  exact onn
 case t14 => exact inferInstance
 clear hr; intro a15 w15 x hr hd hs
 have u22 := mv s1 (fa ?b14_0 a15 w15 22 (hd 0 22 rfl))
 revert s5; revert s4; refine kp2 hs rfl ?_; intro s4 s5
 clear s1
 have s22 := u22; clear u22
 replace e_w := e_w.trans x
 have e_w9 := x; clear hd hs x
 refine et ?_
 refine Q33 (fun A W => Fr 34 A ∧ Same Qbf a15 A ∧ Ext w W ∧ (PxS g3_4 w.heap.size [3] [(plcS plc0).flatten] 0) (A.eval (.tmp 4)) W ∧ (PxS g5_5 w.heap.size [1, 1, 1] (plcS (Qby p dst)) 0) (A.eval (.tmp 5)) W) ?cut16 ?_
 case cut16 =>
  have m16 : Same Qbf a15 a15 := Same.rfl
  refine wp_cond_split (show _ = _ from s22) (fun hd => ?_) (fun hd => ?_)
  ·
   skip
   refine sq ?_
   refine Q06 (l := [_, _, _, _, _, _]) (rest := [_]) 34 [[(5, none)], [(23, some 0)], [(5, none)], [(25, some 2)], [(24, some 1), (26, some 3)], [(5, none)]] [?b18_0, ?b18_1, ?b18_2, ?b18_3, ?b18_4, ?b18_5] hr ?t18 ?o18 ?_
   case o18 =>
    apply oc0; intro A W hx hf
    exact Q02 0 tu81 (k := 0) rfl Q0m rfl (o2 s5 e_w9 hx (r0 hf)) rfl
    apply oc0; intro A W hx hf
    exact Q0a tu3 rfl (q0 ?b18_0 A W 23 hf) rfl
    apply oc0; intro A W hx hf
    exact Q02 1 tu81 (k := 1) rfl Q0m rfl (o2 s5 e_w9 hx (r0 hf)) rfl
    apply oc0; intro A W hx hf
    exact Q0a tu3 rfl (q0 ?b18_2 A W 25 hf) rfl
    apply oc0; intro A W hx hf
    exact Q0o (q0 ?b18_1 A W 24 hf) (q1 ?b18_3 A W 26 hf) (by omega)
    apply oc0; intro A W hx hf
    exact Q02 0 tu81 (k := 0) rfl Q0m rfl (o2 s5 e_w9 hx (r0 hf)) rfl
    exact onn
   case t18 => exact inferInstance
   clear hr; intro a19 w19 x hr hd hs
   revert s5; revert s4; refine kp2 hs rfl ?_; intro s4 s5
   clear s22
   have s27 := fa ?b18_4 a19 w19 27 (hd 4 27 rfl)
   have s28 := fa ?b18_5 a19 w19 28 (hd 5 28 rfl)
   replace e_w := e_w.trans x
   replace e_w9 := e_w9.trans x
   replace m16 := m16.tr hs rfl; clear hd hs x
   have z20 := PxS.lt s28
   have l20 := (show (g5_5 = 0 ∨ w.heap.size < g5_5) ∧ True from ⟨by omega, trivial⟩)
   have l20_4 := PxS.lt (Q00 e_w9 s4)
   refine Q1z hr Q0m s28 s27 (by rfl) rfl ?_; clear hr; intro a20 w20 hc hu hr hs
   have hb : Below w.heap.size w19 w20 := hc.below e_w.size l20.1
   revert s5; revert s4; refine kp2 hs rfl ?_; intro s4 s5
   clear s27 s28
   replace s4 := PxS.other (Q00 e_w9 s4) hc (by omega)
   replace s5 := hu _ _ _ (Q00 e_w9 s5)
   try simp only [List.set_cons_zero, List.set_cons_succ, pktF, plcS] at s5
   replace e_w := e_w.below (Nat.le_refl _) hb
   clear e_w9
   replace m16 := m16.tr hs rfl
   clear hu hs hc hb
   refine wpList_nil ?_
   refine et ?_
   refine Q06 (l := [_, _, _, _]) (rest := [_]) 34 [[(5, none)], [(29, some 0)], [(30, some 1)], [(5, none)]] [?b21_0, ?b21_1, ?b21_2, ?b21_3] hr ?t21 ?o21 ?_
   case o21 =>
    apply oc0; intro A W hx hf
    exact Q02 2 tu81 (k := 2) rfl Q0m rfl (o1 s5 hx (r0 hf)) rfl
    apply oc0; intro A W hx hf
    exact Q0a tu3 rfl (q0 ?b21_0 A W 29 hf) rfl
    apply oc0; intro A W hx hf
    exact Q0o (q0 ?b21_1 A W 30 hf) (ec A (.int .i64 2)) (by omega)
    apply oc0; intro A W hx hf
    exact Q02 2 tu81 (k := 2) rfl Q0m rfl (o1 s5 hx (r0 hf)) rfl
    exact onn
   case t21 => exact inferInstance
   clear hr; intro a22 w22 x hr hd hs
   revert s5; revert s4; refine kp2 hs rfl ?_; intro s4 s5
   have s31 := fa ?b21_2 a22 w22 31 (hd 2 31 rfl)
   have s32 := fa ?b21_3 a22 w22 32 (hd 3 32 rfl)
   replace e_w := e_w.trans x
   have e_w20 := x
   replace m16 := m16.tr hs rfl; clear hd hs x
   have z23 := PxS.lt s32
   have l23 := (show (g5_5 = 0 ∨ w.heap.size < g5_5) ∧ True from ⟨by omega, trivial⟩)
   have l23_4 := PxS.lt (Q00 e_w20 s4)
   refine Q1z hr Q0m s32 s31 (by rfl) rfl ?_; clear hr; intro a23 w23 hc hu hr hs
   have hb : Below w.heap.size w22 w23 := hc.below e_w.size l23.1
   revert s5; revert s4; refine kp2 hs rfl ?_; intro s4 s5
   clear s31 s32
   replace s4 := PxS.other (Q00 e_w20 s4) hc (by omega)
   replace s5 := hu _ _ _ (Q00 e_w20 s5)
   try simp only [List.set_cons_zero, List.set_cons_succ, pktF, plcS] at s5
   replace e_w := e_w.below (Nat.le_refl _) hb
   clear e_w20
   replace m16 := m16.tr hs rfl
   clear hu hs hc hb
   refine wpList_nil ?_
   refine et ?_
   refine ⟨hr, m16, e_w, ?_, ?_⟩
   · exact s4
   · exact PxS.cast s5 (by unfold Qby; rw [hd]; rfl)
  skip
  refine wp_skip ?_
  refine et ?_
  refine ⟨hr, m16, e_w, ?_, ?_⟩
  · exact (Q00 e_w9 s4)
  · exact PxS.cast (Q00 e_w9 s5) (by unfold Qby; rw [hd]; rfl)
 intro a16 w16 hI
 clear e_w
 clear e_w9
 clear hr; obtain ⟨hr, hs, e_w, u4, u5⟩ := hI
 clear s4 s5 s22
 have s4 := u4; clear u4
 have s5 := u5; clear u5
 clear hs
 refine sq ?_
 refine Q06 (l := [_]) (rest := [_]) 34 [[(5, none)]] [?b24_0] hr ?t24 ?o24 ?_
 case o24 =>
  apply oc0; intro A W hx hf
  exact Q0b 3 tu81 rfl Qb9 (o1 s5 hx (r0 hf)) rfl
  exact onn
 case t24 => exact inferInstance
 clear hr; intro a25 w25 x hr hd hs
 revert s4; refine kp1 hs rfl ?_; intro s4
 clear s5
 have s33 := fa ?b24_0 a25 w25 33 (hd 0 33 rfl)
 replace e_w := e_w.trans x
 have e_w16 := x; clear hd hs x
 have z26 := PxS.lt (Q00 e_w16 s4)
 have l26 := (show (g3_4 = 0 ∨ w.heap.size < g3_4) ∧ True from ⟨by omega, trivial⟩)
 refine Q0k hr Qb9 (Q00 e_w16 s4) (Is.conv s33 (show _ = PlcV (Qby p dst) from rfl)) (by rfl) (by exact Qbx) rfl ?_; clear hr; intro a26 w26 hc hu hr hs
 have hb : Below w.heap.size w25 w26 := hc.below e_w.size l26.1
 revert s4; refine kp1 hs rfl ?_; intro s4
 clear s33
 replace s4 := hu _ _ _ (Q00 e_w16 s4)
 try simp only [List.set_cons_zero, List.set_cons_succ, pktF, plcS] at s4
 replace e_w := e_w.below (Nat.le_refl _) hb
 clear e_w16
 clear hu hs hc hb
 refine wpList_nil ?_
 refine et ?_
 refine wp_ret ?_
 refine Q7o Try.results40 hr tu81 rfl Qb9 s4 e_w ?_
 exact rfl

end Go.Proofs.Ytlmdboaghojgiaa
