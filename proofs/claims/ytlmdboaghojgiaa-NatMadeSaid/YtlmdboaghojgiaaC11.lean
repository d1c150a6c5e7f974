import Derived.Test.YtlmdboaghojgiaaC06
import Derived.Test.YtlmdboaghojgiaaM06
import Derived.Test.YtlmdboaghojgiaaS11
import Derived.Test.YtlmdboaghojgiaaC08
import Derived.Test.YtlmdboaghojgiaaC07
import Derived.Test.YtlmdboaghojgiaaC09m
namespace Go.Proofs.Ytlmdboaghojgiaa
open Go.RowKit
set_option linter.unusedVariables false
set_option linter.unusedSimpArgs false
set_option maxRecDepth 4000
theorem Qao {x0 x1 : Value} {w : World} {l : List UInt8} {z : Int} (h0 : (Bs l) x0 w) (h1 : (Is (.int .i64 z)) x1 w) (hz0 : 0 ≤ z) (hz1 : z.toNat + 2 ≤ l.length) :
    Calls Try.prog 28 #[x0, x1] w (Ret (Is (.int .i64 (Q07 l z.toNat))) w) := by
 have hlen := Bs.len_le h0
 obtain ⟨i, rfl⟩ : ∃ i : Nat, z = (i : Int) := ⟨z.toNat, by omega⟩
 simp only [Int.toNat_natCast] at hz1 ⊢
 have g0 : i < l.length := by omega
 have g1 : i + 1 < l.length := by omega
 have y0 := Q5u l[i]
 have y1 := Q5u l[i + 1]
 refine enter Try.func28 rfl Try.ntmps28 (k := 2) rfl (by decide) (fun a0 hr hargs => ?_)
 have s0 := sarg h0 (hargs 0 (by decide))
 have s1 := sarg h1 (hargs 1 (by decide))
 clear hargs
 refine sq ?_
 refine Q04 18 [[]] [?b1_0] Q08 hr ?t1 ?o1 ?_
 case o1 =>
  apply oc0; intro A W hx hf
  exact Q05
  exact onn
 case t1 => exact inferInstance
 clear hr; intro a2 w2 x hr hd hs
 revert s1; revert s0; refine kp2 hs rfl ?_; intro s0 s1
 have e_w := x; clear hd hs x
 refine es ?_
 refine Q04 18 [[(0, none)], [(1, none)], [(5, some 0), (6, some 1)], [(7, some 2)], [(8, some 3)], [(9, some 4)], [(0, none)], [(1, none)], [(12, some 7)], [(11, some 6), (13, some 8)], [(14, some 9)], [(15, some 10)], [(10, some 5), (16, some 11)], [(17, some 12)]] [?b3_0, ?b3_1, ?b3_2, ?b3_3, ?b3_4, ?b3_5, ?b3_6, ?b3_7, ?b3_8, ?b3_9, ?b3_10, ?b3_11, ?b3_12, ?b3_12] Q08 hr ?t3 ?o3 ?_
 case o3 =>
  apply oc0; intro A W hx hf
  exact Q01 (a0 := a2) (r0 hf)
  apply oc0; intro A W hx hf
  exact Q01 (a0 := a2) (r0 hf)
  apply oc0; intro A W hx hf
  exact Q12 (_) tu22 Q0s (p2 s0 e_w hx (q0 ?b3_0 A W 5 hf)) (p2 s1 e_w hx (q1 ?b3_1 A W 6 hf)) (by first | omega | decide | (simp; done) | (simp; omega))
  apply oc0; intro A W hx hf
  exact Q1d tu5 rfl (q0 ?b3_2 A W 7 hf)
  apply oc0; intro A W hx hf
  exact Q2k tu5 tu3 (by decide) (q0 ?b3_3 A W 8 hf)
  apply oc0; intro A W hx hf
  exact Q5j (ec A (.int .i64 256)) (q0 ?b3_4 A W 9 hf) (by omega)
  apply oc0; intro A W hx hf
  exact Q01 (a0 := a2) (r0 hf)
  apply oc0; intro A W hx hf
  exact Q01 (a0 := a2) (r0 hf)
  apply oc0; intro A W hx hf
  exact Q0o (p2 s1 e_w hx (q0 ?b3_7 A W 12 hf)) (ec A (.int .i64 1)) (by omega)
  apply oc0; intro A W hx hf
  exact Q12 (i + 1) tu22 Q0s (p2 s0 e_w hx (q0 ?b3_6 A W 11 hf)) (Is.int (q1 ?b3_8 A W 13 hf) (by omega)) (by first | omega | decide | (simp; done) | (simp; omega))
  apply oc0; intro A W hx hf
  exact Q1d tu5 rfl (q0 ?b3_9 A W 14 hf)
  apply oc0; intro A W hx hf
  exact Q2k tu5 tu3 (by decide) (q0 ?b3_10 A W 15 hf)
  apply oc0; intro A W hx hf
  exact Q0o (q0 ?b3_5 A W 10 hf) (q1 ?b3_11 A W 16 hf) (by omega)
  apply oc0; intro A W hx hf
  exact Q03 (q0 ?b3_12 A W 17 hf)
  exact onn
 case t3 => exact inferInstance
 clear hr; intro a4 w4 x hr hd hs
 clear s0 s1
 have s4 := fa ?b3_12 a4 w4 4 (hd 13 4 rfl)
 replace e_w := e_w.trans x; clear hd hs x
 refine et ?_
 refine wp_ret ?_
 refine Q0r Try.results28 hr e_w ?_
 exact Is.int s4 (by unfold Q07; rw [Q10 g0, Q10 g1])

theorem Qhm {x0 : Value} {w : World} {q : Int} (h0 : (Is (.int .i64 q)) x0 w)  :
    Calls Try.prog 19 #[x0] w (Ret (Is (.int .i64 (Q2f q))) w) := by
 refine enter Try.func19 rfl Try.ntmps19 (k := 1) rfl (by decide) (fun a0 hr hargs => ?_)
 have s0 := sarg h0 (hargs 0 (by decide))
 clear hargs
 refine sq ?_
 refine Q04 7 [[]] [?b1_0] Q08 hr ?t1 ?o1 ?_
 case o1 =>
  apply oc0; intro A W hx hf
  exact Q05
  exact onn
 case t1 => exact inferInstance
 clear hr; intro a2 w2 x hr hd hs
 revert s0; refine kp1 hs rfl ?_; intro s0
 have e_w := x; clear hd hs x
 refine es ?_
 refine sq ?_
 refine Q04 7 [[(0, none)], [(3, some 0)]] [?b3_0, ?b3_1] Q08 hr ?t3 ?o3 ?_
 case o3 =>
  apply oc0; intro A W hx hf
  exact Q01 (a0 := a2) (r0 hf)
  apply oc0; intro A W hx hf
  exact Q1i (p2 s0 e_w hx (q0 ?b3_0 A W 3 hf)) (ec A (.int .i64 6))
  exact onn
 case t3 => exact inferInstance
 clear hr; intro a4 w4 x hr hd hs
 revert s0; refine kp1 hs rfl ?_; intro s0
 have s4 := fa ?b3_1 a4 w4 4 (hd 1 4 rfl)
 replace e_w := e_w.trans x; clear hd hs x
 refine et ?_
 refine wp_cond_split (show _ = _ from s4) (fun h6 => ?_) (fun h6 => ?_)
 ·
  skip
  refine sq ?_
  refine Q04 7 [[]] [?b6_0] Q08 hr ?t6 ?o6 ?_
  case o6 =>
   apply oc0; intro A W hx hf
   exact Q05
   exact onn
  case t6 => exact inferInstance
  clear hr; intro a7 w7 x hr hd hs
  clear s0 s4
  have s2 := fa ?b6_0 a7 w7 2 (hd 0 2 rfl)
  replace e_w := e_w.trans x; clear hd hs x
  refine et ?_
  refine wp_ret ?_
  refine Q0e ?_
  refine Q0r Try.results19 hr e_w ?_
  exact Is.int s2 (by simp [Q2f] at *; simp [*])
 skip
 refine wp_skip ?_
 refine es ?_
 refine sq ?_
 refine Q04 7 [[(0, none)], [(5, some 0)]] [?b8_0, ?b8_1] Q08 hr ?t8 ?o8 ?_
 case o8 =>
  apply oc0; intro A W hx hf
  exact Q01 (a0 := a4) (r0 hf)
  apply oc0; intro A W hx hf
  exact Q1i (p2 s0 e_w hx (q0 ?b8_0 A W 5 hf)) (ec A (.int .i64 17))
  exact onn
 case t8 => exact inferInstance
 clear hr; intro a9 w9 x hr hd hs
 clear s0 s4
 have s6 := fa ?b8_1 a9 w9 6 (hd 1 6 rfl)
 replace e_w := e_w.trans x; clear hd hs x
 refine et ?_
 refine wp_cond_split (show _ = _ from s6) (fun h17 => ?_) (fun h17 => ?_)
 ·
  skip
  refine sq ?_
  refine Q04 7 [[]] [?b11_0] Q08 hr ?t11 ?o11 ?_
  case o11 =>
   apply oc0; intro A W hx hf
   exact Q05
   exact onn
  case t11 => exact inferInstance
  clear hr; intro a12 w12 x hr hd hs
  clear s6
  have s2 := fa ?b11_0 a12 w12 2 (hd 0 2 rfl)
  replace e_w := e_w.trans x; clear hd hs x
  refine et ?_
  refine wp_ret ?_
  refine Q0e ?_
  refine Q0r Try.results19 hr e_w ?_
  exact Is.int s2 (by simp [Q2f] at *; simp [*])
 skip
 refine wp_skip ?_
 refine es ?_
 refine Q04 7 [[]] [?b13_0] Q08 hr ?t13 ?o13 ?_
 case o13 =>
  apply oc0; intro A W hx hf
  exact Q05
  exact onn
 case t13 => exact inferInstance
 clear hr; intro a14 w14 x hr hd hs
 clear s6
 have s2 := fa ?b13_0 a14 w14 2 (hd 0 2 rfl)
 replace e_w := e_w.trans x; clear hd hs x
 refine et ?_
 refine wp_ret ?_
 refine Q0r Try.results19 hr e_w ?_
 exact Is.int s2 (by simp [Q2f] at *; simp [*])

theorem Qki {x0 x1 : Value} {w : World} {q : Int} {l : List UInt8} (h0 : (Is (.int .i64 q)) x0 w) (h1 : (Bs l) x1 w)  :
    Calls Try.prog 26 #[x0, x1] w (Ret (Tup2 (Is (Qcd (Q0i q l).1)) (Is (.int .i64 (Q0i q l).2))) w) := by
 have hlen := Bs.len_le h1
 have w4 := Q0w l 4
 refine enter Try.func26 rfl Try.ntmps26 (k := 2) rfl (by decide) (fun a0 hr hargs => ?_)
 have s0 := sarg h0 (hargs 0 (by decide))
 have s1 := sarg h1 (hargs 1 (by decide))
 clear hargs
 refine sq ?_
 refine Q04 64 [[], []] [?b1_0, ?b1_1] Q08 hr ?t1 ?o1 ?_
 case o1 =>
  apply oc0; intro A W hx hf
  exact Q0y [(Q2q Q2z).flatten] [5] Q5o (by rfl) (by rfl) hx.size
  apply oc0; intro A W hx hf
  exact Q05
  exact onn
 case t1 => exact inferInstance
 clear hr; intro a2 w2 x hr hd hs
 revert s1; revert s0; refine kp2 hs rfl ?_; intro s0 s1
 have s4 := fa ?b1_0 a2 w2 4 (hd 0 4 rfl)
 obtain ⟨g2_4, q2_4⟩ := PxN.at s4; clear s4; have n2_4 := PxS.lt q2_4
 have s4 := q2_4; clear q2_4
 have e_w := x; clear hd hs x
 refine es ?_
 refine sq ?_
 refine Q04 64 [[(0, none)], [(7, some 0)]] [?b3_0, ?b3_1] Q08 hr ?t3 ?o3 ?_
 case o3 =>
  apply oc0; intro A W hx hf
  exact Q01 (a0 := a2) (r0 hf)
  apply oc0; intro A W hx hf
  exact Q1i (p2 s0 e_w hx (q0 ?b3_0 A W 7 hf)) (ec A (.int .i64 6))
  exact onn
 case t3 => exact inferInstance
 clear hr; intro a4 w4 x hr hd hs
 revert s4; revert s1; revert s0; refine kp3 hs rfl ?_; intro s0 s1 s4
 have s8 := fa ?b3_1 a4 w4 8 (hd 1 8 rfl)
 replace e_w := e_w.trans x
 have e_w2 := x; clear hd hs x
 refine et ?_
 refine wp_cond_split (show _ = _ from s8) (fun h6 => ?_) (fun h6 => ?_)
 ·
  have h6 : q = 6 := by simpa using h6
  subst h6
  rw [Q8v]
  refine sq ?_
  refine sq ?_
  refine Q04 64 [[(1, none)], [(9, some 0)], [(10, some 1)]] [?b6_0, ?b6_1, ?b6_2] Q08 hr ?t6 ?o6 ?_
  case o6 =>
   apply oc0; intro A W hx hf
   exact Q01 (a0 := a4) (r0 hf)
   apply oc0; intro A W hx hf
   exact Q0v tu22 (p2 s1 e_w hx (q0 ?b6_0 A W 9 hf))
   apply oc0; intro A W hx hf
   exact Q1b (q0 ?b6_1 A W 10 hf) (ec A (.int .i64 20))
   exact onn
  case t6 => exact inferInstance
  clear hr; intro a7 w7 x hr hd hs
  revert s4; revert s1; refine kp2 hs rfl ?_; intro s1 s4
  clear s0 s8
  have s11 := fa ?b6_2 a7 w7 11 (hd 2 11 rfl)
  replace e_w := e_w.trans x
  replace e_w2 := e_w2.trans x; clear hd hs x
  refine et ?_
  refine wp_cond_split (show _ = _ from s11) (fun hl => ?_) (fun hl => ?_)
  ·
   have hl : l.length < 20 := by simp at hl; omega
   have hrd : Q24 l = (Q2z, 2) := by unfold Q24; rw [if_pos hl]
   refine sq ?_
   refine Q06 (l := [_]) (rest := [_, _]) 64 [[]] [?b9_0] hr ?t9 ?o9 ?_
   case o9 =>
    apply oc0; intro A W hx hf
    exact Q13 Q3t
    exact onn
   case t9 => exact inferInstance
   clear hr; intro a10 w10 x hr hd hs
   revert s4; refine kp1 hs rfl ?_; intro s4
   clear s1 s11
   have s12 := fa ?b9_0 a10 w10 12 (hd 0 12 rfl)
   replace e_w := e_w.trans x
   replace e_w2 := e_w2.trans x; clear hd hs x
   have z11 := PxS.lt (Q00 e_w2 s4)
   have l11 := (show (g2_4 = 0 ∨ w.heap.size < g2_4) ∧ True from ⟨by omega, trivial⟩)
   refine Q0k hr Q1j (Q00 e_w2 s4) s12 (by exact Q2b _) (by exact Q1r) rfl ?_; clear hr; intro a11 w11 hc hu hr hs
   have hb : Below w.heap.size w10 w11 := hc.below e_w.size l11.1
   revert s4; refine kp1 hs rfl ?_; intro s4
   clear s12
   replace s4 := hu _ _ _ (Q00 e_w2 s4)
   try simp only [List.set_cons_zero, List.set_cons_succ] at s4
   replace e_w := e_w.below (Nat.le_refl _) hb
   clear e_w2
   clear hu hs hc hb
   refine Q11 hr (Q05) inferInstance ?_; clear hr; intro a12 w12 x hr hd hs
   revert s4; refine kp1 hs rfl ?_; intro s4
   have s5 := hd 5 rfl (by decide)
   replace e_w := e_w.trans x
   have e_w11 := x; clear hd hs x
   refine wpList_nil ?_
   refine et ?_
   refine wp_ret ?_
   refine Q0e ?_
   refine Q0e ?_
   refine Q0f Try.results26 hr tu66 rfl Q1j (Q00 e_w11 s4) e_w ?_
   (rw [hrd]; exact ⟨_, _, rfl, rfl, s5⟩)
  have hl : ¬ l.length < 20 := by simp at hl; omega
  have e12 : (l[12]'(by omega)).toNat = Q09 l 12 := (Q10 (by omega)).symm
  have e13 : (l[13]'(by omega)).toNat = Q09 l 13 := (Q10 (by omega)).symm
  have b12 := Q1q l 12
  have b13 := Q1q l 13
  have hq12 : IntKind.u8.wrap (((l[12]'(by omega)).toNat : Int).tdiv 16) = ((l[12]'(by omega)).toNat : Int) / 16 := Qlg (x := (l[12]'(by omega)).toNat) (k := 16) (by have := Q5u (l[12]'(by omega)); omega)
  refine wp_skip ?_
  refine es ?_
  refine Q04 64 [[(1, none)], [(13, some 0)], [(14, some 1)], [(15, some 2)], [(16, some 3)], [(17, some 4)], [(18, some 5)]] [?b13_0, ?b13_1, ?b13_2, ?b13_3, ?b13_4, ?b13_5, ?b13_5] Q08 hr ?t13 ?o13 ?_
  case o13 =>
   apply oc0; intro A W hx hf
   exact Q01 (a0 := a7) (r0 hf)
   apply oc0; intro A W hx hf
   exact Q12 (12) tu22 Q0s (p2 s1 e_w hx (q0 ?b13_0 A W 13 hf)) (ec A (.int .i64 12)) (by first | omega | decide | (simp; done) | (simp; omega))
   apply oc0; intro A W hx hf
   exact Q1d tu5 rfl (q0 ?b13_1 A W 14 hf)
   apply oc0; intro A W hx hf
   exact Q4u (by decide) (q0 ?b13_2 A W 15 hf) (ec A (.int .u8 16))
   apply oc0; intro A W hx hf
   exact Q2d tu5 tu3 (by rw [hq12]; exact IntWalk.i64_in _ (by omega)) (q0 ?b13_3 A W 16 hf)
   apply oc0; intro A W hx hf
   exact Q5j (ec A (.int .i64 4)) (q0 ?b13_4 A W 17 hf) (by rw [hq12]; omega)
   apply oc0; intro A W hx hf
   exact Q03 (q0 ?b13_5 A W 18 hf)
   exact onn
  case t13 => exact inferInstance
  clear hr; intro a14 w14 x hr hd hs
  revert s4; revert s1; refine kp2 hs rfl ?_; intro s1 s4
  clear s11
  have s6 := fa ?b13_5 a14 w14 6 (hd 6 6 rfl)
  replace e_w := e_w.trans x
  replace e_w2 := e_w2.trans x; clear hd hs x
  replace s6 := Is.int s6 (show _ = Q09 l 12 / 16 * 4 from by rw [hq12, e12]; omega)
  refine es ?_
  refine sq ?_
  refine Q04 64 [[(6, none)], [(19, some 0)]] [?b15_0, ?b15_1] Q08 hr ?t15 ?o15 ?_
  case o15 =>
   apply oc0; intro A W hx hf
   exact Q01 (a0 := a14) (r0 hf)
   apply oc0; intro A W hx hf
   exact Q1b (p1 s6 hx (q0 ?b15_0 A W 19 hf)) (ec A (.int .i64 20))
   exact onn
  case t15 => exact inferInstance
  clear hr; intro a16 w16 x hr hd hs
  revert s6; revert s4; revert s1; refine kp3 hs rfl ?_; intro s1 s4 s6
  have s20 := fa ?b15_1 a16 w16 20 (hd 1 20 rfl)
  replace e_w := e_w.trans x
  replace e_w2 := e_w2.trans x
  have e_w14 := x; clear hd hs x
  refine et ?_
  refine wp_cond_split (show _ = _ from s20) (fun hh => ?_) (fun hh => ?_)
  ·
   have hh : Q09 l 12 / 16 * 4 < 20 := by simpa using hh
   have hrd : Q24 l = (Q2z, 3) := by unfold Q24; rw [if_neg hl, if_pos hh]
   refine sq ?_
   refine Q06 (l := [_]) (rest := [_, _]) 64 [[]] [?b18_0] hr ?t18 ?o18 ?_
   case o18 =>
    apply oc0; intro A W hx hf
    exact Q13 Q3t
    exact onn
   case t18 => exact inferInstance
   clear hr; intro a19 w19 x hr hd hs
   revert s4; refine kp1 hs rfl ?_; intro s4
   clear s1 s6 s20
   have s21 := fa ?b18_0 a19 w19 21 (hd 0 21 rfl)
   replace e_w := e_w.trans x
   replace e_w2 := e_w2.trans x
   clear e_w14; clear hd hs x
   have z20 := PxS.lt (Q00 e_w2 s4)
   have l20 := (show (g2_4 = 0 ∨ w.heap.size < g2_4) ∧ True from ⟨by omega, trivial⟩)
   refine Q0k hr Q1j (Q00 e_w2 s4) s21 (by exact Q2b _) (by exact Q1r) rfl ?_; clear hr; intro a20 w20 hc hu hr hs
   have hb : Below w.heap.size w19 w20 := hc.below e_w.size l20.1
   revert s4; refine kp1 hs rfl ?_; intro s4
   clear s21
   replace s4 := hu _ _ _ (Q00 e_w2 s4)
   try simp only [List.set_cons_zero, List.set_cons_succ] at s4
   replace e_w := e_w.below (Nat.le_refl _) hb
   clear e_w2
   clear hu hs hc hb
   refine Q11 hr (Q05) inferInstance ?_; clear hr; intro a21 w21 x hr hd hs
   revert s4; refine kp1 hs rfl ?_; intro s4
   have s5 := hd 5 rfl (by decide)
   replace e_w := e_w.trans x
   have e_w20 := x; clear hd hs x
   refine wpList_nil ?_
   refine et ?_
   refine wp_ret ?_
   refine Q0e ?_
   refine Q0e ?_
   refine Q0f Try.results26 hr tu66 rfl Q1j (Q00 e_w20 s4) e_w ?_
   (rw [hrd]; exact ⟨_, _, rfl, rfl, s5⟩)
  have hh : ¬ Q09 l 12 / 16 * 4 < 20 := by simpa using hh
  refine wp_skip ?_
  refine es ?_
  refine sq ?_
  refine Q04 64 [[(6, none)], [(1, none)], [(23, some 1)], [(22, some 0), (24, some 2)]] [?b22_0, ?b22_1, ?b22_2, ?b22_3] Q08 hr ?t22 ?o22 ?_
  case o22 =>
   apply oc0; intro A W hx hf
   exact Q01 (a0 := a16) (r0 hf)
   apply oc0; intro A W hx hf
   exact Q01 (a0 := a16) (r0 hf)
   apply oc0; intro A W hx hf
   exact Q0v tu22 (p2 s1 e_w hx (q0 ?b22_1 A W 23 hf))
   apply oc0; intro A W hx hf
   exact Q3m (p2 s6 e_w14 hx (q0 ?b22_0 A W 22 hf)) (q1 ?b22_2 A W 24 hf)
   exact onn
  case t22 => exact inferInstance
  clear hr; intro a23 w23 x hr hd hs
  revert s6; revert s4; revert s1; refine kp3 hs rfl ?_; intro s1 s4 s6
  clear s20
  have s25 := fa ?b22_3 a23 w23 25 (hd 3 25 rfl)
  replace e_w := e_w.trans x
  replace e_w2 := e_w2.trans x
  replace e_w14 := e_w14.trans x; clear hd hs x
  refine et ?_
  refine wp_cond_split (show _ = _ from s25) (fun ht => ?_) (fun ht => ?_)
  ·
   have ht : Q09 l 12 / 16 * 4 > (l.length : Int) := by simpa using ht
   have hrd : Q24 l = (Q2z, 2) := by unfold Q24; rw [if_neg hl, if_neg hh, if_pos ht]
   refine sq ?_
   refine Q06 (l := [_]) (rest := [_, _]) 64 [[]] [?b25_0] hr ?t25 ?o25 ?_
   case o25 =>
    apply oc0; intro A W hx hf
    exact Q13 Q3t
    exact onn
   case t25 => exact inferInstance
   clear hr; intro a26 w26 x hr hd hs
   revert s4; refine kp1 hs rfl ?_; intro s4
   clear s1 s6 s25
   have s26 := fa ?b25_0 a26 w26 26 (hd 0 26 rfl)
   replace e_w := e_w.trans x
   replace e_w2 := e_w2.trans x
   clear e_w14; clear hd hs x
   have z27 := PxS.lt (Q00 e_w2 s4)
   have l27 := (show (g2_4 = 0 ∨ w.heap.size < g2_4) ∧ True from ⟨by omega, trivial⟩)
   refine Q0k hr Q1j (Q00 e_w2 s4) s26 (by exact Q2b _) (by exact Q1r) rfl ?_; clear hr; intro a27 w27 hc hu hr hs
   have hb : Below w.heap.size w26 w27 := hc.below e_w.size l27.1
   revert s4; refine kp1 hs rfl ?_; intro s4
   clear s26
   replace s4 := hu _ _ _ (Q00 e_w2 s4)
   try simp only [List.set_cons_zero, List.set_cons_succ] at s4
   replace e_w := e_w.below (Nat.le_refl _) hb
   clear e_w2
   clear hu hs hc hb
   refine Q11 hr (Q05) inferInstance ?_; clear hr; intro a28 w28 x hr hd hs
   revert s4; refine kp1 hs rfl ?_; intro s4
   have s5 := hd 5 rfl (by decide)
   replace e_w := e_w.trans x
   have e_w27 := x; clear hd hs x
   refine wpList_nil ?_
   refine et ?_
   refine wp_ret ?_
   refine Q0e ?_
   refine Q0e ?_
   refine Q0f Try.results26 hr tu66 rfl Q1j (Q00 e_w27 s4) e_w ?_
   (rw [hrd]; exact ⟨_, _, rfl, rfl, s5⟩)
  have ht : ¬ Q09 l 12 / 16 * 4 > (l.length : Int) := by simpa using ht
  have hrd : Q24 l = (⟨Q07 l 0, Q07 l 2, Q09 l 13 % 64, Q09 l 12 / 16 * 4, (l.length : Int)⟩, 0) := by unfold Q24; rw [if_neg hl, if_neg hh, if_neg ht]
  refine wp_skip ?_
  refine es ?_
  refine Q1s Q08 (fun w29 x => ?_)
  show wpAny _ _ _ _ 15 _ _ _
  replace e_w := e_w.trans x
  replace e_w2 := e_w2.trans x
  replace e_w14 := e_w14.trans x
  have e_w23 := x
  clear x
  refine Q60 (l := [_, _, _, _, _, _, _, _, _, _, _, _, _, _, _]) 64 _ [false, false, false, false, false, false, false, false, false, false, false, false, false, true, true] [13, 14] [[(1, none)], [(27, some 0)], [(1, none)], [(29, some 2)], [(1, none)], [(31, some 4)], [(32, some 5)], [(33, some 6)], [(34, some 7)], [(6, none)], [(1, none)], [(37, some 10)], [(28, some 1), (30, some 3), (35, some 8), (36, some 9), (38, some 11)], [], []] [?b30_0, ?b30_1, ?b30_2, ?b30_3, ?b30_4, ?b30_5, ?b30_6, ?b30_7, ?b30_8, ?b30_9, ?b30_10, ?b30_11, ?b30_12, VP.top, VP.top] (by kernel_rfl) rfl (by kernel_rfl) hr ?t30 ?o30 ?_
  case o30 =>
   apply lc0; intro A W hx hf
   exact Q01 (a0 := a23) (r0 hf)
   apply lc0; intro A W hx hf
   exact Q0p Q9n (Qao (p2 s1 e_w hx (q0 ?b30_0 A W 27 hf)) (show Is (.int .i64 0) (A.eval (.const (.int .i64 0))) _ from rfl) (by decide) (by first | omega | (show 2 ≤ _; omega) | (show 4 ≤ _; omega) | (show 6 ≤ _; omega) | (show 8 ≤ _; omega)))
   apply lc0; intro A W hx hf
   exact Q01 (a0 := a23) (r0 hf)
   apply lc0; intro A W hx hf
   exact Q0p Q9n (Qao (p2 s1 e_w hx (q0 ?b30_2 A W 29 hf)) (show Is (.int .i64 2) (A.eval (.const (.int .i64 2))) _ from rfl) (by decide) (by first | omega | (show 2 ≤ _; omega) | (show 4 ≤ _; omega) | (show 6 ≤ _; omega) | (show 8 ≤ _; omega)))
   apply lc0; intro A W hx hf
   exact Q01 (a0 := a23) (r0 hf)
   apply lc0; intro A W hx hf
   exact Q12 (13) tu22 Q0s (p2 s1 e_w hx (q0 ?b30_4 A W 31 hf)) (ec A (.int .i64 13)) (by first | omega | decide | (simp; done) | (simp; omega))
   apply lc0; intro A W hx hf
   exact Q1d tu5 rfl (q0 ?b30_5 A W 32 hf)
   apply lc0; intro A W hx hf
   exact Q4v (by decide) (q0 ?b30_6 A W 33 hf) (ec A (.int .u8 64))
   apply lc0; intro A W hx hf
   exact Q2d tu5 tu3 (by rw [Int.tmod_eq_emod_of_nonneg (by omega)]; exact IntWalk.i64_in _ (by omega)) (q0 ?b30_7 A W 34 hf)
   apply lc0; intro A W hx hf
   exact Q01 (a0 := a23) (r0 hf)
   apply lc0; intro A W hx hf
   exact Q01 (a0 := a23) (r0 hf)
   apply lc0; intro A W hx hf
   exact Q0v tu22 (p2 s1 e_w hx (q0 ?b30_10 A W 37 hf))
   apply lc0; intro A W hx hf
   exact Q1e [(0, (.tmp 28)), (1, (.tmp 30)), (2, (.tmp 35)), (3, (.tmp 36)), (4, (.tmp 38))] [(0, _), (1, _), (2, _), (3, _), (4, _)] Ql5 rfl (PartsC.one (q0 ?b30_1 A W 28 hf) rfl (PartsC.one (q1 ?b30_3 A W 30 hf) rfl (PartsC.one (q2 ?b30_8 A W 35 hf) rfl (PartsC.one (p2 s6 e_w14 hx (q3 ?b30_9 A W 36 hf)) rfl (PartsC.one (q4 ?b30_11 A W 38 hf) rfl (PartsC.nil)))))) (by first | rfl | simp [Q0l, *])
   refine lcs ?_
   refine lcs ?_
   exact lcn
  case t30 => exact inferInstance
  clear hr; intro a31 w31 x hr hd hs
  have u27 := mv s1 (fa ?b30_0 a31 w31 27 (hd 0 27 rfl rfl))
  have u29 := mv s1 (fa ?b30_2 a31 w31 29 (hd 2 29 rfl rfl))
  have u31 := mv s1 (fa ?b30_4 a31 w31 31 (hd 4 31 rfl rfl))
  have u36 := mv s6 (fa ?b30_9 a31 w31 36 (hd 9 36 rfl rfl))
  have u37 := mv s1 (fa ?b30_10 a31 w31 37 (hd 10 37 rfl rfl))
  revert s6; revert s4; revert s1; refine kp3 hs rfl ?_; intro s1 s4 s6
  clear s25
  have s27 := u27; clear u27
  have s29 := u29; clear u29
  have s31 := u31; clear u31
  have s36 := u36; clear u36
  have s37 := u37; clear u37
  have s28 := fa ?b30_1 a31 w31 28 (hd 1 28 rfl rfl)
  have s30 := fa ?b30_3 a31 w31 30 (hd 3 30 rfl rfl)
  have s32 := fa ?b30_5 a31 w31 32 (hd 5 32 rfl rfl)
  have s33 := fa ?b30_6 a31 w31 33 (hd 6 33 rfl rfl)
  have s34 := fa ?b30_7 a31 w31 34 (hd 7 34 rfl rfl)
  have s35 := fa ?b30_8 a31 w31 35 (hd 8 35 rfl rfl)
  have s38 := fa ?b30_11 a31 w31 38 (hd 11 38 rfl rfl)
  have s39 := fa ?b30_12 a31 w31 39 (hd 12 39 rfl rfl)
  replace e_w := e_w.trans x
  replace e_w2 := e_w2.trans x
  replace e_w14 := e_w14.trans x
  clear e_w23; clear hd hs x
  show wpList _ _ _ [_, _] _ _
  have z32 := PxS.lt (Q00 e_w2 s4)
  have l32 := (show (g2_4 = 0 ∨ w.heap.size < g2_4) ∧ True from ⟨by omega, trivial⟩)
  refine Q0k hr Q1j (Q00 e_w2 s4) (Is.conv s39 (show _ = Qcd ⟨Q07 l 0, Q07 l 2, Q09 l 13 % 64, Q09 l 12 / 16 * 4, (l.length : Int)⟩ from by rw [Int.tmod_eq_emod_of_nonneg (by omega), e13]; rfl)) (by exact Q2b _) (by exact Q1r) rfl ?_; clear hr; intro a32 w32 hc hu hr hs
  have hb : Below w.heap.size w31 w32 := hc.below e_w.size l32.1
  revert s4; refine kp1 hs rfl ?_; intro s4
  clear s1 s6 s27 s29 s31 s36 s37 s28 s30 s32 s33 s34 s35 s38 s39
  replace s4 := hu _ _ _ (Q00 e_w2 s4)
  try simp only [List.set_cons_zero, List.set_cons_succ] at s4
  replace e_w := e_w.below (Nat.le_refl _) hb
  clear e_w2
  clear e_w14
  clear hu hs hc hb
  refine Q11 hr (Q05) inferInstance ?_; clear hr; intro a33 w33 x hr hd hs
  revert s4; refine kp1 hs rfl ?_; intro s4
  have s5 := hd 5 rfl (by decide)
  replace e_w := e_w.trans x
  have e_w32 := x; clear hd hs x
  refine wpList_nil ?_
  refine et ?_
  refine wp_ret ?_
  refine Q0e ?_
  refine Q0f Try.results26 hr tu66 rfl Q1j (Q00 e_w32 s4) e_w ?_
  (rw [hrd]; exact ⟨_, _, rfl, rfl, s5⟩)
 have h6 : q ≠ 6 := by simpa using h6
 refine wp_skip ?_
 refine es ?_
 refine sq ?_
 refine Q04 64 [[(0, none)], [(40, some 0)]] [?b34_0, ?b34_1] Q08 hr ?t34 ?o34 ?_
 case o34 =>
  apply oc0; intro A W hx hf
  exact Q01 (a0 := a4) (r0 hf)
  apply oc0; intro A W hx hf
  exact Q48 (p2 s0 e_w hx (q0 ?b34_0 A W 40 hf)) (ec A (.int .i64 17))
  exact onn
 case t34 => exact inferInstance
 clear hr; intro a35 w35 x hr hd hs
 revert s4; revert s1; refine kp2 hs rfl ?_; intro s1 s4
 clear s0 s8
 have s41 := fa ?b34_1 a35 w35 41 (hd 1 41 rfl)
 replace e_w := e_w.trans x
 replace e_w2 := e_w2.trans x; clear hd hs x
 refine et ?_
 refine wp_cond_split (show _ = _ from s41) (fun h17 => ?_) (fun h17 => ?_)
 ·
  have h17 : q ≠ 17 := by simpa using h17
  have hrd := Q7z (l := l) h6 h17
  refine sq ?_
  refine Q06 (l := [_]) (rest := [_, _]) 64 [[]] [?b37_0] hr ?t37 ?o37 ?_
  case o37 =>
   apply oc0; intro A W hx hf
   exact Q13 Q3t
   exact onn
  case t37 => exact inferInstance
  clear hr; intro a38 w38 x hr hd hs
  revert s4; refine kp1 hs rfl ?_; intro s4
  clear s1 s41
  have s42 := fa ?b37_0 a38 w38 42 (hd 0 42 rfl)
  replace e_w := e_w.trans x
  replace e_w2 := e_w2.trans x; clear hd hs x
  have z39 := PxS.lt (Q00 e_w2 s4)
  have l39 := (show (g2_4 = 0 ∨ w.heap.size < g2_4) ∧ True from ⟨by omega, trivial⟩)
  refine Q0k hr Q1j (Q00 e_w2 s4) s42 (by exact Q2b _) (by exact Q1r) rfl ?_; clear hr; intro a39 w39 hc hu hr hs
  have hb : Below w.heap.size w38 w39 := hc.below e_w.size l39.1
  revert s4; refine kp1 hs rfl ?_; intro s4
  clear s42
  replace s4 := hu _ _ _ (Q00 e_w2 s4)
  try simp only [List.set_cons_zero, List.set_cons_succ] at s4
  replace e_w := e_w.below (Nat.le_refl _) hb
  clear e_w2
  clear hu hs hc hb
  refine Q11 hr (Q05) inferInstance ?_; clear hr; intro a40 w40 x hr hd hs
  revert s4; refine kp1 hs rfl ?_; intro s4
  have s5 := hd 5 rfl (by decide)
  replace e_w := e_w.trans x
  have e_w39 := x; clear hd hs x
  refine wpList_nil ?_
  refine et ?_
  refine wp_ret ?_
  refine Q0e ?_
  refine Q0f Try.results26 hr tu66 rfl Q1j (Q00 e_w39 s4) e_w ?_
  (rw [hrd]; exact ⟨_, _, rfl, rfl, s5⟩)
 have h17 : q = 17 := by simpa using h17
 subst h17
 rw [Q8w]
 refine wp_skip ?_
 refine es ?_
 refine sq ?_
 refine Q04 64 [[(1, none)], [(43, some 0)], [(44, some 1)]] [?b41_0, ?b41_1, ?b41_2] Q08 hr ?t41 ?o41 ?_
 case o41 =>
  apply oc0; intro A W hx hf
  exact Q01 (a0 := a35) (r0 hf)
  apply oc0; intro A W hx hf
  exact Q0v tu22 (p2 s1 e_w hx (q0 ?b41_0 A W 43 hf))
  apply oc0; intro A W hx hf
  exact Q1b (q0 ?b41_1 A W 44 hf) (ec A (.int .i64 8))
  exact onn
 case t41 => exact inferInstance
 clear hr; intro a42 w42 x hr hd hs
 revert s4; revert s1; refine kp2 hs rfl ?_; intro s1 s4
 clear s41
 have s45 := fa ?b41_2 a42 w42 45 (hd 2 45 rfl)
 replace e_w := e_w.trans x
 replace e_w2 := e_w2.trans x; clear hd hs x
 refine et ?_
 refine wp_cond_split (show _ = _ from s45) (fun hl => ?_) (fun hl => ?_)
 ·
  have hl : l.length < 8 := by simp at hl; omega
  have hrd : Q25 l = (Q2z, 2) := by unfold Q25; rw [if_pos hl]
  refine sq ?_
  refine Q06 (l := [_]) (rest := [_, _]) 64 [[]] [?b44_0] hr ?t44 ?o44 ?_
  case o44 =>
   apply oc0; intro A W hx hf
   exact Q13 Q3t
   exact onn
  case t44 => exact inferInstance
  clear hr; intro a45 w45 x hr hd hs
  revert s4; refine kp1 hs rfl ?_; intro s4
  clear s1 s45
  have s46 := fa ?b44_0 a45 w45 46 (hd 0 46 rfl)
  replace e_w := e_w.trans x
  replace e_w2 := e_w2.trans x; clear hd hs x
  have z46 := PxS.lt (Q00 e_w2 s4)
  have l46 := (show (g2_4 = 0 ∨ w.heap.size < g2_4) ∧ True from ⟨by omega, trivial⟩)
  refine Q0k hr Q1j (Q00 e_w2 s4) s46 (by exact Q2b _) (by exact Q1r) rfl ?_; clear hr; intro a46 w46 hc hu hr hs
  have hb : Below w.heap.size w45 w46 := hc.below e_w.size l46.1
  revert s4; refine kp1 hs rfl ?_; intro s4
  clear s46
  replace s4 := hu _ _ _ (Q00 e_w2 s4)
  try simp only [List.set_cons_zero, List.set_cons_succ] at s4
  replace e_w := e_w.below (Nat.le_refl _) hb
  clear e_w2
  clear hu hs hc hb
  refine Q11 hr (Q05) inferInstance ?_; clear hr; intro a47 w47 x hr hd hs
  revert s4; refine kp1 hs rfl ?_; intro s4
  have s5 := hd 5 rfl (by decide)
  replace e_w := e_w.trans x
  have e_w46 := x; clear hd hs x
  refine wpList_nil ?_
  refine et ?_
  refine wp_ret ?_
  refine Q0e ?_
  refine Q0f Try.results26 hr tu66 rfl Q1j (Q00 e_w46 s4) e_w ?_
  (rw [hrd]; exact ⟨_, _, rfl, rfl, s5⟩)
 have hl : ¬ l.length < 8 := by simp at hl; omega
 refine wp_skip ?_
 refine es ?_
 refine sq ?_
 refine Q04 64 [[(1, none)], [(47, some 0)], [(48, some 1)]] [?b48_0, ?b48_1, ?b48_2] Q08 hr ?t48 ?o48 ?_
 case o48 =>
  apply oc0; intro A W hx hf
  exact Q01 (a0 := a42) (r0 hf)
  apply oc0; intro A W hx hf
  exact Q0p Q9n (Qao (p2 s1 e_w hx (q0 ?b48_0 A W 47 hf)) (show Is (.int .i64 4) (A.eval (.const (.int .i64 4))) _ from rfl) (by decide) (by first | omega | (show 2 ≤ _; omega) | (show 4 ≤ _; omega) | (show 6 ≤ _; omega) | (show 8 ≤ _; omega)))
  apply oc0; intro A W hx hf
  exact Q1b (q0 ?b48_1 A W 48 hf) (ec A (.int .i64 8))
  exact onn
 case t48 => exact inferInstance
 clear hr; intro a49 w49 x hr hd hs
 revert s4; revert s1; refine kp2 hs rfl ?_; intro s1 s4
 clear s45
 have s49 := fa ?b48_2 a49 w49 49 (hd 2 49 rfl)
 replace e_w := e_w.trans x
 replace e_w2 := e_w2.trans x; clear hd hs x
 refine et ?_
 refine wp_cond_split (show _ = _ from s49) (fun hh => ?_) (fun hh => ?_)
 ·
  have hh : Q07 l 4 < 8 := by simpa using hh
  have hrd : Q25 l = (Q2z, 3) := by unfold Q25; rw [if_neg hl, if_pos hh]
  refine sq ?_
  refine Q06 (l := [_]) (rest := [_, _]) 64 [[]] [?b51_0] hr ?t51 ?o51 ?_
  case o51 =>
   apply oc0; intro A W hx hf
   exact Q13 Q3t
   exact onn
  case t51 => exact inferInstance
  clear hr; intro a52 w52 x hr hd hs
  revert s4; refine kp1 hs rfl ?_; intro s4
  clear s1 s49
  have s50 := fa ?b51_0 a52 w52 50 (hd 0 50 rfl)
  replace e_w := e_w.trans x
  replace e_w2 := e_w2.trans x; clear hd hs x
  have z53 := PxS.lt (Q00 e_w2 s4)
  have l53 := (show (g2_4 = 0 ∨ w.heap.size < g2_4) ∧ True from ⟨by omega, trivial⟩)
  refine Q0k hr Q1j (Q00 e_w2 s4) s50 (by exact Q2b _) (by exact Q1r) rfl ?_; clear hr; intro a53 w53 hc hu hr hs
  have hb : Below w.heap.size w52 w53 := hc.below e_w.size l53.1
  revert s4; refine kp1 hs rfl ?_; intro s4
  clear s50
  replace s4 := hu _ _ _ (Q00 e_w2 s4)
  try simp only [List.set_cons_zero, List.set_cons_succ] at s4
  replace e_w := e_w.below (Nat.le_refl _) hb
  clear e_w2
  clear hu hs hc hb
  refine Q11 hr (Q05) inferInstance ?_; clear hr; intro a54 w54 x hr hd hs
  revert s4; refine kp1 hs rfl ?_; intro s4
  have s5 := hd 5 rfl (by decide)
  replace e_w := e_w.trans x
  have e_w53 := x; clear hd hs x
  refine wpList_nil ?_
  refine et ?_
  refine wp_ret ?_
  refine Q0e ?_
  refine Q0f Try.results26 hr tu66 rfl Q1j (Q00 e_w53 s4) e_w ?_
  (rw [hrd]; exact ⟨_, _, rfl, rfl, s5⟩)
 have hh : ¬ Q07 l 4 < 8 := by simpa using hh
 refine wp_skip ?_
 refine es ?_
 refine sq ?_
 refine Q04 64 [[(1, none)], [(51, some 0)], [(1, none)], [(53, some 2)], [(52, some 1), (54, some 3)]] [?b55_0, ?b55_1, ?b55_2, ?b55_3, ?b55_4] Q08 hr ?t55 ?o55 ?_
 case o55 =>
  apply oc0; intro A W hx hf
  exact Q01 (a0 := a49) (r0 hf)
  apply oc0; intro A W hx hf
  exact Q0p Q9n (Qao (p2 s1 e_w hx (q0 ?b55_0 A W 51 hf)) (show Is (.int .i64 4) (A.eval (.const (.int .i64 4))) _ from rfl) (by decide) (by first | omega | (show 2 ≤ _; omega) | (show 4 ≤ _; omega) | (show 6 ≤ _; omega) | (show 8 ≤ _; omega)))
  apply oc0; intro A W hx hf
  exact Q01 (a0 := a49) (r0 hf)
  apply oc0; intro A W hx hf
  exact Q0v tu22 (p2 s1 e_w hx (q0 ?b55_2 A W 53 hf))
  apply oc0; intro A W hx hf
  exact Q3m (q0 ?b55_1 A W 52 hf) (q1 ?b55_3 A W 54 hf)
  exact onn
 case t55 => exact inferInstance
 clear hr; intro a56 w56 x hr hd hs
 revert s4; revert s1; refine kp2 hs rfl ?_; intro s1 s4
 clear s49
 have s55 := fa ?b55_4 a56 w56 55 (hd 4 55 rfl)
 replace e_w := e_w.trans x
 replace e_w2 := e_w2.trans x; clear hd hs x
 refine et ?_
 refine wp_cond_split (show _ = _ from s55) (fun ht => ?_) (fun ht => ?_)
 ·
  have ht : Q07 l 4 > (l.length : Int) := by simpa using ht
  have hrd : Q25 l = (Q2z, 2) := by unfold Q25; rw [if_neg hl, if_neg hh, if_pos ht]
  refine sq ?_
  refine Q06 (l := [_]) (rest := [_, _]) 64 [[]] [?b58_0] hr ?t58 ?o58 ?_
  case o58 =>
   apply oc0; intro A W hx hf
   exact Q13 Q3t
   exact onn
  case t58 => exact inferInstance
  clear hr; intro a59 w59 x hr hd hs
  revert s4; refine kp1 hs rfl ?_; intro s4
  clear s1 s55
  have s56 := fa ?b58_0 a59 w59 56 (hd 0 56 rfl)
  replace e_w := e_w.trans x
  replace e_w2 := e_w2.trans x; clear hd hs x
  have z60 := PxS.lt (Q00 e_w2 s4)
  have l60 := (show (g2_4 = 0 ∨ w.heap.size < g2_4) ∧ True from ⟨by omega, trivial⟩)
  refine Q0k hr Q1j (Q00 e_w2 s4) s56 (by exact Q2b _) (by exact Q1r) rfl ?_; clear hr; intro a60 w60 hc hu hr hs
  have hb : Below w.heap.size w59 w60 := hc.below e_w.size l60.1
  revert s4; refine kp1 hs rfl ?_; intro s4
  clear s56
  replace s4 := hu _ _ _ (Q00 e_w2 s4)
  try simp only [List.set_cons_zero, List.set_cons_succ] at s4
  replace e_w := e_w.below (Nat.le_refl _) hb
  clear e_w2
  clear hu hs hc hb
  refine Q11 hr (Q05) inferInstance ?_; clear hr; intro a61 w61 x hr hd hs
  revert s4; refine kp1 hs rfl ?_; intro s4
  have s5 := hd 5 rfl (by decide)
  replace e_w := e_w.trans x
  have e_w60 := x; clear hd hs x
  refine wpList_nil ?_
  refine et ?_
  refine wp_ret ?_
  refine Q0e ?_
  refine Q0f Try.results26 hr tu66 rfl Q1j (Q00 e_w60 s4) e_w ?_
  (rw [hrd]; exact ⟨_, _, rfl, rfl, s5⟩)
 have ht : ¬ Q07 l 4 > (l.length : Int) := by simpa using ht
 have hrd : Q25 l = (⟨Q07 l 0, Q07 l 2, 0, 8, Q07 l 4⟩, 0) := by unfold Q25; rw [if_neg hl, if_neg hh, if_neg ht]
 refine wp_skip ?_
 refine es ?_
 refine Q06 (l := [_, _, _, _, _, _, _]) (rest := [_, _]) 64 [[(1, none)], [(57, some 0)], [(1, none)], [(59, some 2)], [(1, none)], [(61, some 4)], [(58, some 1), (60, some 3), (62, some 5)]] [?b62_0, ?b62_1, ?b62_2, ?b62_3, ?b62_4, ?b62_5, ?b62_6] hr ?t62 ?o62 ?_
 case o62 =>
  apply oc0; intro A W hx hf
  exact Q01 (a0 := a56) (r0 hf)
  apply oc0; intro A W hx hf
  exact Q0p Q9n (Qao (p2 s1 e_w hx (q0 ?b62_0 A W 57 hf)) (show Is (.int .i64 0) (A.eval (.const (.int .i64 0))) _ from rfl) (by decide) (by first | omega | (show 2 ≤ _; omega) | (show 4 ≤ _; omega) | (show 6 ≤ _; omega) | (show 8 ≤ _; omega)))
  apply oc0; intro A W hx hf
  exact Q01 (a0 := a56) (r0 hf)
  apply oc0; intro A W hx hf
  exact Q0p Q9n (Qao (p2 s1 e_w hx (q0 ?b62_2 A W 59 hf)) (show Is (.int .i64 2) (A.eval (.const (.int .i64 2))) _ from rfl) (by decide) (by first | omega | (show 2 ≤ _; omega) | (show 4 ≤ _; omega) | (show 6 ≤ _; omega) | (show 8 ≤ _; omega)))
  apply oc0; intro A W hx hf
  exact Q01 (a0 := a56) (r0 hf)
  apply oc0; intro A W hx hf
  exact Q0p Q9n (Qao (p2 s1 e_w hx (q0 ?b62_4 A W 61 hf)) (show Is (.int .i64 4) (A.eval (.const (.int .i64 4))) _ from rfl) (by decide) (by first | omega | (show 2 ≤ _; omega) | (show 4 ≤ _; omega) | (show 6 ≤ _; omega) | (show 8 ≤ _; omega)))
  apply oc0; intro A W hx hf
  exact Q1e [(0, (.tmp 58)), (1, (.tmp 60)), (3, (.const (.int .i64 8))), (4, (.tmp 62))] [(0, _), (1, _), (3, _), (4, _)] Ql5 rfl (PartsC.one (q0 ?b62_1 A W 58 hf) rfl (PartsC.one (q1 ?b62_3 A W 60 hf) rfl (PartsC.one (ec A (.int .i64 8)) rfl (PartsC.one (q2 ?b62_5 A W 62 hf) rfl (PartsC.nil))))) (by first | rfl | simp [Q0l, *])
  exact onn
 case t62 => exact inferInstance
 clear hr; intro a63 w63 x hr hd hs
 revert s4; refine kp1 hs rfl ?_; intro s4
 clear s1 s55
 have s63 := fa ?b62_6 a63 w63 63 (hd 6 63 rfl)
 replace e_w := e_w.trans x
 replace e_w2 := e_w2.trans x; clear hd hs x
 have z64 := PxS.lt (Q00 e_w2 s4)
 have l64 := (show (g2_4 = 0 ∨ w.heap.size < g2_4) ∧ True from ⟨by omega, trivial⟩)
 refine Q0k hr Q1j (Q00 e_w2 s4) (show Is (Qcd ⟨Q07 l 0, Q07 l 2, 0, 8, Q07 l 4⟩) _ _ from s63) (by exact Q2b _) (by exact Q1r) rfl ?_; clear hr; intro a64 w64 hc hu hr hs
 have hb : Below w.heap.size w63 w64 := hc.below e_w.size l64.1
 revert s4; refine kp1 hs rfl ?_; intro s4
 clear s63
 replace s4 := hu _ _ _ (Q00 e_w2 s4)
 try simp only [List.set_cons_zero, List.set_cons_succ] at s4
 replace e_w := e_w.below (Nat.le_refl _) hb
 clear e_w2
 clear hu hs hc hb
 refine Q11 hr (Q05) inferInstance ?_; clear hr; intro a65 w65 x hr hd hs
 revert s4; refine kp1 hs rfl ?_; intro s4
 have s5 := hd 5 rfl (by decide)
 replace e_w := e_w.trans x
 have e_w64 := x; clear hd hs x
 refine wpList_nil ?_
 refine et ?_
 refine wp_ret ?_
 refine Q0f Try.results26 hr tu66 rfl Q1j (Q00 e_w64 s4) e_w ?_
 (rw [hrd]; exact ⟨_, _, rfl, rfl, s5⟩)

theorem Qm6 {x0 x1 x2 x3 : Value} {w : World} {Sa Da : Adr} {q : Int} {l : List UInt8} (h0 : (Is (AdrV Sa)) x0 w) (h1 : (Is (AdrV Da)) x1 w) (h2 : (Is (.int .i64 q)) x2 w) (h3 : (Bs l) x3 w) (hA : Sa.b.length = 16) (hD : Da.b.length = 16) (hok : (Q0i q l).2 = 0) (hn9 : l.length ≤ 65535) :
    Calls Try.prog 29 #[x0, x1, x2, x3] w (Ret (Is (.int .i64 (pSum Sa Da q l))) w) := by
 have hlen := Bs.len_le h3
 obtain ⟨y1, y2, y3, y4⟩ := Q4i hok
 obtain ⟨v1, v2, v3⟩ := Q6d hok
 refine enter Try.func29 rfl Try.ntmps29 (k := 4) rfl (by decide) (fun a0 hr hargs => ?_)
 have s0 := sarg h0 (hargs 0 (by decide))
 have s1 := sarg h1 (hargs 1 (by decide))
 have s2 := sarg h2 (hargs 2 (by decide))
 have s3 := sarg h3 (hargs 3 (by decide))
 clear hargs
 refine sq ?_
 refine Q04 31 [[(0, none)], [(1, none)], []] [?b1_0, ?b1_1, ?b1_2] Q08 hr ?t1 ?o1 ?_
 case o1 =>
  apply oc0; intro A W hx hf
  exact Q1y [[.bool Sa.six], Sa.b.map Q0t] [1, 16] (Is.conv (o1 s0 hx (r0 hf)) (Q1o Sa).symm) (by simp [*]) hx.size
  apply oc0; intro A W hx hf
  exact Q1y [[.bool Da.six], Da.b.map Q0t] [1, 16] (Is.conv (o1 s1 hx (r0 hf)) (Q1o Da).symm) (by simp [*]) hx.size
  apply oc0; intro A W hx hf
  exact Q05
  exact onn
 case t1 => exact inferInstance
 clear hr; intro a2 w2 x hr hd hs
 revert s3; revert s2; refine kp2 hs rfl ?_; intro s2 s3
 clear s0 s1
 have s4 := fa ?b1_0 a2 w2 4 (hd 0 4 rfl)
 have s5 := fa ?b1_1 a2 w2 5 (hd 1 5 rfl)
 obtain ⟨g2_4, q2_4⟩ := PxN.at s4; clear s4; have n2_4 := PxS.lt q2_4
 have s4 := q2_4; clear q2_4
 obtain ⟨g2_5, q2_5⟩ := PxN.at s5; clear s5; have n2_5 := PxS.lt q2_5
 have s5 := q2_5; clear q2_5
 have e_w := x; clear hd hs x
 refine es ?_
 refine Q06 (l := [_, _, _, _, _, _, _]) (rest := [_, _]) 31 [[(2, none)], [(3, none)], [(13, some 0), (14, some 1)], [(15, some 2)], [(12, some 3)], [(12, some 3)], []] [?b3_0, ?b3_1, ?b3_2, ?b3_2, ?b3_4, ?b3_5, ?b3_6] hr ?t3 ?o3 ?_
 case o3 =>
  apply oc0; intro A W hx hf
  exact Q01 (a0 := a2) (r0 hf)
  apply oc0; intro A W hx hf
  exact Q01 (a0 := a2) (r0 hf)
  apply oc0; intro A W hx hf
  exact Q0p Qpk (Qki (p2 s2 e_w hx (q0 ?b3_0 A W 13 hf)) (p2 s3 e_w hx (q1 ?b3_1 A W 14 hf)))
  apply oc0; intro A W hx hf
  exact Q0h (q0 ?b3_2 A W 15 hf)
  apply oc0; intro A W hx hf
  exact Q2t (q0 ?b3_2 A W 12 hf)
  apply oc0; intro A W hx hf
  exact Q2u (q0 ?b3_2 A W 12 hf)
  apply oc0; intro A W hx hf
  exact Q0y (Q2q Q2z) [1, 1, 1, 1, 1] Q5o (by rfl) (by rfl) hx.size
  exact onn
 case t3 => exact inferInstance
 clear hr; intro a4 w4 x hr hd hs
 have z_w_w2 := e_w.size
 have l4_4 := PxS.lt s4
 have l4_5 := PxS.lt s5
 revert s5; revert s4; revert s3; revert s2; refine kp4 hs rfl ?_; intro s2 s3 s4 s5
 have s16 := fa ?b3_4 a4 w4 16 (hd 4 16 rfl)
 have s17 := fa ?b3_5 a4 w4 17 (hd 5 17 rfl)
 have s9 := fa ?b3_6 a4 w4 9 (hd 6 9 rfl)
 obtain ⟨g4_9, q4_9⟩ := PxN.at s9; clear s9; have n4_9 := PxS.lt q4_9
 replace q4_9 := PxS.mono q4_9 e_w.size
 have s9 := q4_9; clear q4_9
 replace e_w := e_w.trans x
 have e_w2 := x; clear hd hs x
 have z5 := PxS.lt s9
 have l5 := (show (g4_9 = 0 ∨ w.heap.size < g4_9) ∧ True from ⟨by omega, trivial⟩)
 have l5_4 := PxS.lt (Q00 e_w2 s4)
 have l5_5 := PxS.lt (Q00 e_w2 s5)
 refine Q19 (Q2q (Q0i q l).1) hr Q1j s9 s16 (by rfl) (by exact Q1r) rfl ?_; clear hr; intro a5 w5 hc hu hr hs
 have hb : Below w.heap.size w4 w5 := hc.below e_w.size l5.1
 revert s9; revert s17; revert s5; revert s4; revert s3; revert s2; refine kp6 hs rfl ?_; intro s2 s3 s4 s5 s17 s9
 clear s16
 replace s4 := PxS.other (Q00 e_w2 s4) hc (by omega)
 replace s5 := PxS.other (Q00 e_w2 s5) hc (by omega)
 replace s9 := hu _ _ _ s9
 try simp only [List.set_cons_zero, List.set_cons_succ] at s9
 replace e_w := e_w.below (Nat.le_refl _) hb
 clear e_w2
 replace s17 := anyw (w2 := w5) s17
 clear hu hs hc hb
 refine Q11 hr (Q03 s17) inferInstance ?_; clear hr; intro a6 w6 x hr hd hs
 revert s9; revert s5; revert s4; revert s3; revert s2; refine kp5 hs rfl ?_; intro s2 s3 s4 s5 s9
 clear s17
 replace e_w := e_w.trans x
 have e_w5 := x; clear hd hs x
 refine wpList_nil ?_
 refine es ?_
 refine Q1s Q08 (fun w7 x => ?_)
 show wpAny _ _ _ _ 12 _ _ _
 replace e_w := e_w.trans x
 replace e_w5 := e_w5.trans x
 clear x
 refine Q60 (l := [_, _, _, _, _, _, _, _, _, _, _, _]) 31 _ [false, false, false, false, false, false, false, false, false, false, true, true] [10, 11] [[(4, none)], [(5, none)], [(2, none)], [(9, none)], [(21, some 3)], [(18, some 0), (19, some 1), (20, some 2), (22, some 4)], [(3, none)], [(9, none)], [(25, some 7)], [(24, some 6), (26, some 8)], [], []] [?b8_0, ?b8_1, ?b8_2, ?b8_3, ?b8_4, ?b8_5, ?b8_6, ?b8_7, ?b8_8, ?b8_9, VP.top, VP.top] (by kernel_rfl) rfl (by kernel_rfl) hr ?t8 ?o8 ?_
 case o8 =>
  apply lc0; intro A W hx hf
  exact Q0b 2 tu25 rfl Q0z (o2 s4 e_w5 hx (r0 hf)) rfl
  apply lc0; intro A W hx hf
  exact Q0b 2 tu25 rfl Q0z (o2 s5 e_w5 hx (r0 hf)) rfl
  apply lc0; intro A W hx hf
  exact Q01 (a0 := a6) (r0 hf)
  apply lc0; intro A W hx hf
  exact Q02 4 tu66 (k := 4) rfl Q0m rfl (o2 s9 e_w5 hx (r0 hf)) rfl
  apply lc0; intro A W hx hf
  exact Q0a tu3 rfl (q0 ?b8_3 A W 21 hf) rfl
  apply lc0; intro A W hx hf
  exact Q3p Qpy (Qk6 (Is.conv (q0 ?b8_0 A W 18 hf) (Q1o Sa)) (Is.conv (q1 ?b8_1 A W 19 hf) (Q1o Da)) (p2 s2 e_w hx (q2 ?b8_2 A W 20 hf)) (q3 ?b8_4 A W 22 hf) (by exact hA) (by exact hD) (by show 0 ≤ (Q0i q l).1.total ∧ (Q0i q l).1.total ≤ 65535; omega) hx.size)
  apply lc0; intro A W hx hf
  exact Q01 (a0 := a6) (r0 hf)
  apply lc0; intro A W hx hf
  exact Q02 4 tu66 (k := 4) rfl Q0m rfl (o2 s9 e_w5 hx (r0 hf)) rfl
  apply lc0; intro A W hx hf
  exact Q0a tu3 rfl (q0 ?b8_7 A W 25 hf) rfl
  apply lc0; intro A W hx hf
  exact Q4x ((Q0i q l).1.total.toNat) tu22 Q0s (sarg s3 (show _ = _ from (q0 ?b8_6 A W 24 hf))) (Is.int (q1 ?b8_8 A W 26 hf) (by show (Q0i q l).1.total = _; omega)) (by omega)
  refine lcs ?_
  refine lcs ?_
  exact lcn
 case t8 => exact inferInstance
 clear hr; intro a9 w9 x hr hd hs
 have z_w_w7 := e_w.size
 have z_w5_w7 := e_w5.size
 have l9_4 := PxS.lt (Q00 e_w5 s4)
 have l9_5 := PxS.lt (Q00 e_w5 s5)
 have l9_9 := PxS.lt (Q00 e_w5 s9)
 have u20 := mv s2 (fa ?b8_2 a9 w9 20 (hd 2 20 rfl rfl))
 have u24 := mv s3 (fa ?b8_6 a9 w9 24 (hd 6 24 rfl rfl))
 revert s9; revert s5; revert s4; revert s3; revert s2; refine kp5 hs rfl ?_; intro s2 s3 s4 s5 s9
 have s20 := u20; clear u20
 have s24 := u24; clear u24
 have s18 := fa ?b8_0 a9 w9 18 (hd 0 18 rfl rfl)
 have s19 := fa ?b8_1 a9 w9 19 (hd 1 19 rfl rfl)
 have s21 := fa ?b8_3 a9 w9 21 (hd 3 21 rfl rfl)
 have s22 := fa ?b8_4 a9 w9 22 (hd 4 22 rfl rfl)
 have s23 := fa ?b8_5 a9 w9 23 (hd 5 23 rfl rfl)
 have s25 := fa ?b8_7 a9 w9 25 (hd 7 25 rfl rfl)
 have s26 := fa ?b8_8 a9 w9 26 (hd 8 26 rfl rfl)
 have s27 := AtW.base (fa ?b8_9 a9 w9 27 (hd 9 27 rfl rfl))
 obtain ⟨g9_23, q9_23⟩ := OwnB.at s23; clear s23; have n9_23 := OwnBA.lt q9_23
 replace q9_23 := OwnBA.mono q9_23 e_w.size
 have s23 := q9_23; clear q9_23
 replace e_w := e_w.trans x
 replace e_w5 := e_w5.trans x; clear hd hs x
 show wpList _ _ _ [_, _] _ _
 have l10 := OwnBA.lt s23
 refine Q0u hr (by decide) tu22 Q3u rfl s23 (Q00 e_w s27) e_w.size (by (have y9 := Qae Sa Da q (Q0i q l).1.total hA hD; simp only [List.length_take]; omega)) ?_; clear hr; intro g10 a10 w10 hg10 hc hr hd hs
 have hb := hc.below e_w.size l10.1
 clear s2 s3 s4 s5 s9 s20 s24 s18 s19 s21 s22 s25 s26 s27 s23
 have s28 := hd
 replace e_w := e_w.below (Nat.le_refl _) hb
 clear e_w5
 clear hd hs hb hc
 refine Q11 hr (Q03 s28) inferInstance ?_; clear hr; intro a11 w11 x hr hd hs
 clear s28
 have s11 := hd 11 rfl (by decide)
 replace e_w := e_w.trans x; clear hd hs x
 refine wpList_nil ?_
 refine es ?_
 refine Q04 31 [[(11, none)], [(29, some 0)], [(30, some 1)]] [?b12_0, ?b12_1, ?b12_1] Q08 hr ?t12 ?o12 ?_
 case o12 =>
  apply oc0; intro A W hx hf
  exact Q01 (a0 := a11) (r0 hf)
  apply oc0; intro A W hx hf
  exact Q18 Qmr (Qn8 (OwnBA.bs (p1 s11 hx (q0 ?b12_0 A W 29 hf))) (by have y9 := Qae Sa Da q (Q0i q l).1.total hA hD; simp only [List.length_append, List.length_take]; omega))
  apply oc0; intro A W hx hf
  exact Q03 (q0 ?b12_1 A W 30 hf)
  exact onn
 case t12 => exact inferInstance
 clear hr; intro a13 w13 x hr hd hs
 clear s11
 have s8 := fa ?b12_1 a13 w13 8 (hd 2 8 rfl)
 replace e_w := e_w.trans x; clear hd hs x
 refine et ?_
 refine wp_ret ?_
 refine Q0r Try.results29 hr e_w ?_
 exact Is.int s8 rfl

def Q85 : List Tmp := [11]
theorem Qkj {x0 x1 x2 x3 : Value} {w : World} {Sa Da : Adr} {q : Int} {l : List UInt8} {B : Nat} (h0 : (Is (AdrV Sa)) x0 w) (h1 : (Is (AdrV Da)) x1 w) (h2 : (Is (.int .i64 q)) x2 w) (h3 : (Bs l) x3 w) (hA : Sa.b.length = 16) (hD : Da.b.length = 16) (hok : (Q0i q l).2 = 0) (hn9 : l.length ≤ 65535) (hB : B ≤ w.heap.size) :
    Calls Try.prog 36 #[x0, x1, x2, x3] w (Ret (OwnB B 5 (Q6x Sa Da q l)) w) := by
 have hlen := Bs.len_le h3
 obtain ⟨y1, y2, y3, y4⟩ := Q4i hok
 obtain ⟨v1, v2, v3⟩ := Q6d hok
 have z1 := Qad (a := [0, 0]) hok rfl
 have z2 := Q5f (l := l) (k := atN q) (a := [0, 0]) v1 rfl
 have hsb := Qob Sa Da q (Q2g l (atN q) [0, 0])
 have hfb := Qeu (q := q) hsb
 refine enter Try.func36 rfl Try.ntmps36 (k := 4) rfl (by decide) (fun a0 hr hargs => ?_)
 have s0 := sarg h0 (hargs 0 (by decide))
 have s1 := sarg h1 (hargs 1 (by decide))
 have s2 := sarg h2 (hargs 2 (by decide))
 have s3 := sarg h3 (hargs 3 (by decide))
 clear hargs
 refine sq ?_
 refine Q04 49 [[(0, none)], [(1, none)], []] [?b1_0, ?b1_1, ?b1_2] Q08 hr ?t1 ?o1 ?_
 case o1 =>
  apply oc0; intro A W hx hf
  exact Q1y [[.bool Sa.six], Sa.b.map Q0t] [1, 16] (Is.conv (o1 s0 hx (r0 hf)) (Q1o Sa).symm) (by simp [*]) hx.size
  apply oc0; intro A W hx hf
  exact Q1y [[.bool Da.six], Da.b.map Q0t] [1, 16] (Is.conv (o1 s1 hx (r0 hf)) (Q1o Da).symm) (by simp [*]) hx.size
  apply oc0; intro A W hx hf
  exact Q1l (Bs []) (fun _ => Qi5)
  exact onn
 case t1 => exact inferInstance
 clear hr; intro a2 w2 x hr hd hs
 revert s3; revert s2; refine kp2 hs rfl ?_; intro s2 s3
 clear s0 s1
 have s4 := fa ?b1_0 a2 w2 4 (hd 0 4 rfl)
 have s5 := fa ?b1_1 a2 w2 5 (hd 1 5 rfl)
 obtain ⟨g2_4, q2_4⟩ := PxN.at s4; clear s4; have n2_4 := PxS.lt q2_4
 have s4 := q2_4; clear q2_4
 obtain ⟨g2_5, q2_5⟩ := PxN.at s5; clear s5; have n2_5 := PxS.lt q2_5
 have s5 := q2_5; clear q2_5
 have e_w := x; clear hd hs x
 refine es ?_
 refine Q06 (l := [_, _]) (rest := [_, _]) 49 [[], [(3, none)]] [?b3_0, ?b3_1] hr ?t3 ?o3 ?_
 case o3 =>
  apply oc0; intro A W hx hf
  exact Q3c [] [] tu22 Q0s Q45 rfl rfl (by decide) hx.size (PartsOk.nil)
  apply oc0; intro A W hx hf
  exact Q01 (a0 := a2) (r0 hf)
  exact onn
 case t3 => exact inferInstance
 clear hr; intro a4 w4 x hr hd hs
 have z_w_w2 := e_w.size
 have l4_4 := PxS.lt s4
 have l4_5 := PxS.lt s5
 have u13 := mv s3 (fa ?b3_1 a4 w4 13 (hd 1 13 rfl))
 revert s5; revert s4; revert s2; refine kp3 hs rfl ?_; intro s2 s4 s5
 clear s3
 have s13 := u13; clear u13
 have s12 := fa ?b3_0 a4 w4 12 (hd 0 12 rfl)
 obtain ⟨g4_12, q4_12⟩ := OwnB.at s12; clear s12; have n4_12 := OwnBA.lt q4_12
 replace q4_12 := OwnBA.mono q4_12 e_w.size
 have s12 := q4_12; clear q4_12
 replace e_w := e_w.trans x
 have e_w2 := x; clear hd hs x
 have l5 := OwnBA.lt s12
 have l5_4 := PxS.lt (Q00 e_w2 s4)
 have l5_5 := PxS.lt (Q00 e_w2 s5)
 refine Q0u hr (by decide) tu22 Q3u rfl s12 (Q00 e_w s13) e_w.size (by simp; omega) ?_; clear hr; intro g5 a5 w5 hg5 hc hr hd hs
 have hb := hc.below e_w.size l5.1
 revert s5; revert s4; revert s2; refine kp3 hs rfl ?_; intro s2 s4 s5
 clear s13 s12
 replace s4 := PxS.other (Q00 e_w2 s4) hc (by omega)
 replace s5 := PxS.other (Q00 e_w2 s5) hc (by omega)
 have s14 := hd
 replace e_w := e_w.below (Nat.le_refl _) hb
 clear e_w2
 clear hd hs hb hc
 refine Q11 hr (Q03 s14) inferInstance ?_; clear hr; intro a6 w6 x hr hd hs
 revert s5; revert s4; revert s2; refine kp3 hs rfl ?_; intro s2 s4 s5
 clear s14
 have s9 := hd 9 rfl (by decide)
 replace e_w := e_w.trans x
 have e_w5 := x; clear hd hs x
 refine wpList_nil ?_
 refine es ?_
 refine Q04 49 [[(2, none)], [(15, some 0)], [(16, some 1)]] [?b7_0, ?b7_1, ?b7_1] Q08 hr ?t7 ?o7 ?_
 case o7 =>
  apply oc0; intro A W hx hf
  exact Q01 (a0 := a6) (r0 hf)
  apply oc0; intro A W hx hf
  exact Q18 Qpi (Qhm (p2 s2 e_w hx (q0 ?b7_0 A W 15 hf)))
  apply oc0; intro A W hx hf
  exact Q03 (q0 ?b7_1 A W 16 hf)
  exact onn
 case t7 => exact inferInstance
 clear hr; intro a8 w8 x hr hd hs
 revert s9; revert s5; revert s4; revert s2; refine kp4 hs rfl ?_; intro s2 s4 s5 s9
 have s10 := fa ?b7_1 a8 w8 10 (hd 2 10 rfl)
 replace e_w := e_w.trans x
 replace e_w5 := e_w5.trans x
 have e_w6 := x; clear hd hs x
 refine es ?_
 refine Q06 (l := [_, _, _]) (rest := [_]) 49 [[(9, none)], [(10, none)], [(17, some 0), (18, some 1)]] [?b9_0, ?b9_1, ?b9_2] hr ?t9 ?o9 ?_
 case o9 =>
  apply oc0; intro A W hx hf
  exact Q01 (a0 := a8) (r0 hf)
  apply oc0; intro A W hx hf
  exact Q01 (a0 := a8) (r0 hf)
  apply oc0; intro A W hx hf
  exact Q34 (atN q) tu22 Q0s (p2 s9 e_w6 hx (q0 ?b9_0 A W 17 hf)) (Is.int (p1 s10 hx (q1 ?b9_1 A W 18 hf)) (by exact v2)) (by simp; omega)
  exact onn
 case t9 => exact inferInstance
 clear hr; intro a10 w10 x hr hd hs
 revert s10; revert s9; revert s5; revert s4; revert s2; refine kp5 hs rfl ?_; intro s2 s4 s5 s9 s10
 have s19 := fa ?b9_2 a10 w10 19 (hd 2 19 rfl)
 replace e_w := e_w.trans x
 replace e_w5 := e_w5.trans x
 replace e_w6 := e_w6.trans x
 have e_w8 := x; clear hd hs x
 have z11 := EpA.lt s19
 have l11 := (show (g5 = 0 ∨ w.heap.size < g5) ∧ True from ⟨by omega, trivial⟩)
 have l11_4 := PxS.lt (Q00 e_w5 s4)
 have l11_5 := PxS.lt (Q00 e_w5 s5)
 refine Q35 hr Q0s s19 (show ByteIs 0 _ _ from rfl) ?_; clear hr; intro a11 w11 hc hu hr hs
 have hb : Below w.heap.size w10 w11 := hc.below e_w.size l11.1
 revert s10; revert s9; revert s5; revert s4; revert s2; refine kp5 hs rfl ?_; intro s2 s4 s5 s9 s10
 clear s19
 replace s4 := PxS.other (Q00 e_w5 s4) hc (by omega)
 replace s5 := PxS.other (Q00 e_w5 s5) hc (by omega)
 replace s9 := hu _ _ _ (Q00 e_w6 s9)
 replace e_w := e_w.below (Nat.le_refl _) hb
 clear e_w5
 clear e_w6
 clear e_w8
 replace s10 := anyw (w2 := w11) s10
 clear hu hs hc hb
 refine wpList_nil ?_
 refine es ?_
 refine Q06 (l := [_, _, _, _]) (rest := [_]) 49 [[(9, none)], [(10, none)], [(21, some 1)], [(20, some 0), (22, some 2)]] [?b12_0, ?b12_1, ?b12_2, ?b12_3] hr ?t12 ?o12 ?_
 case o12 =>
  apply oc0; intro A W hx hf
  exact Q01 (a0 := a11) (r0 hf)
  apply oc0; intro A W hx hf
  exact Q01 (a0 := a11) (r0 hf)
  apply oc0; intro A W hx hf
  exact Q0o (p1 s10 hx (q0 ?b12_1 A W 21 hf)) (ec A (.int .i64 1)) (by omega)
  apply oc0; intro A W hx hf
  exact Q34 (atN q + 1) tu22 Q0s (p1 s9 hx (q0 ?b12_0 A W 20 hf)) (Is.int (q1 ?b12_2 A W 22 hf) (by omega)) (by simp; omega)
  exact onn
 case t12 => exact inferInstance
 clear hr; intro a13 w13 x hr hd hs
 revert s10; revert s9; revert s5; revert s4; revert s2; refine kp5 hs rfl ?_; intro s2 s4 s5 s9 s10
 have s23 := fa ?b12_3 a13 w13 23 (hd 3 23 rfl)
 replace e_w := e_w.trans x
 have e_w11 := x; clear hd hs x
 have z14 := EpA.lt s23
 have l14 := (show (g5 = 0 ∨ w.heap.size < g5) ∧ True from ⟨by omega, trivial⟩)
 have l14_4 := PxS.lt (Q00 e_w11 s4)
 have l14_5 := PxS.lt (Q00 e_w11 s5)
 refine Q35 hr Q0s s23 (show ByteIs 0 _ _ from rfl) ?_; clear hr; intro a14 w14 hc hu hr hs
 have hb : Below w.heap.size w13 w14 := hc.below e_w.size l14.1
 revert s10; revert s9; revert s5; revert s4; revert s2; refine kp5 hs rfl ?_; intro s2 s4 s5 s9 s10
 clear s23
 replace s4 := PxS.other (Q00 e_w11 s4) hc (by omega)
 replace s5 := PxS.other (Q00 e_w11 s5) hc (by omega)
 replace s9 := hu _ _ _ (Q00 e_w11 s9)
 replace e_w := e_w.below (Nat.le_refl _) hb
 clear e_w11
 replace s10 := anyw (w2 := w14) s10
 clear hu hs hc hb
 refine wpList_nil ?_
 replace s9 := OwnBA.cast s9 (show _ = Q2g l (atN q) [0, 0] from by rw [List.nil_append]; exact set2 v1)
 refine es ?_
 refine Q04 49 [[(4, none)], [(5, none)], [(2, none)], [(9, none)], [(24, some 0), (25, some 1), (26, some 2), (27, some 3)], [(28, some 4)]] [?b15_0, ?b15_1, ?b15_2, ?b15_3, ?b15_4, ?b15_4] Q08 hr ?t15 ?o15 ?_
 case o15 =>
  apply oc0; intro A W hx hf
  exact Q0b 2 tu25 rfl Q0z (o1 s4 hx (r0 hf)) rfl
  apply oc0; intro A W hx hf
  exact Q0b 2 tu25 rfl Q0z (o1 s5 hx (r0 hf)) rfl
  apply oc0; intro A W hx hf
  exact Q01 (a0 := a14) (r0 hf)
  apply oc0; intro A W hx hf
  exact Q01 (a0 := a14) (r0 hf)
  apply oc0; intro A W hx hf
  exact Q3p Qpl (Qm6 (Is.conv (q0 ?b15_0 A W 24 hf) (Q1o Sa)) (Is.conv (q1 ?b15_1 A W 25 hf) (Q1o Da)) (p2 s2 e_w hx (q2 ?b15_2 A W 26 hf)) (OwnBA.bs (p1 s9 hx (q3 ?b15_3 A W 27 hf))) (by exact hA) (by exact hD) (by rw [z1]; exact hok) (by omega))
  apply oc0; intro A W hx hf
  exact Q03 (q0 ?b15_4 A W 28 hf)
  exact onn
 case t15 => exact inferInstance
 clear hr; intro a16 w16 x hr hd hs
 revert s9; revert s10; revert s2; refine kp3 hs rfl ?_; intro s2 s10 s9
 clear s4 s5
 have s11 := fa ?b15_4 a16 w16 11 (hd 5 11 rfl)
 replace e_w := e_w.trans x
 have e_w14 := x; clear hd hs x
 refine es ?_
 refine sq ?_
 refine Q04 49 [[(11, none)], [(29, some 0)], [(30, some 1)], [(2, none), (31, some 2)], [(32, some 3), (31, some 2)], [(31, some 2), (33, some 4)]] [?b17_0, ?b17_1, ?b17_1, ?b17_3, ?b17_4, ?b17_5] Q08 hr ?t17 ?o17 ?_
 case o17 =>
  apply oc0; intro A W hx hf
  exact Q01 (a0 := a16) (r0 hf)
  apply oc0; intro A W hx hf
  exact Q1i (p1 s11 hx (q0 ?b17_0 A W 29 hf)) (ec A (.int .i64 0))
  apply oc0; intro A W hx hf
  exact Q0h (q0 ?b17_1 A W 30 hf)
  refine ocg 31 ?_ (fun A W hx hf => ?_) ?_
  rfl
  exact gd_t (q1 ?b17_1 A W 31 hf) (fun hc => Q01 (a0 := a16) (r0 hf))
  refine ocg 31 ?_ (fun A W hx hf => ?_) ?_
  rfl
  exact gd_t (q1 ?b17_1 A W 31 hf) (fun hc => Q1i (p2 s2 e_w hx (G.get (q0 ?b17_3 A W 32 hf) hc)) (ec A (.int .i64 17)))
  apply oc0; intro A W hx hf
  exact Q2p (q0 ?b17_1 A W 31 hf) (q1 ?b17_4 A W 33 hf)
  exact onn
 case t17 => exact inferInstance
 clear hr; intro a18 w18 x hr hd hs
 revert s11; revert s9; revert s10; refine kp3 hs rfl ?_; intro s10 s9 s11
 clear s2
 have s34 := fa ?b17_5 a18 w18 34 (hd 5 34 rfl)
 replace e_w := e_w.trans x
 replace e_w14 := e_w14.trans x
 have e_w16 := x; clear hd hs x
 refine et ?_
 refine Q33 (fun A W => Fr 49 A ∧ Same Q85 a18 A ∧ Ext w W ∧ (Is (.int .i64 (pFix q (pSum Sa Da q (Q2g l (atN q) [0, 0]))))) (A.eval (.tmp 11)) W ∧ (OwnBA g5 w.heap.size 5 (Q2g l (atN q) [0, 0])) (A.eval (.tmp 9)) W) ?cut19 ?_
 case cut19 =>
  have m19 : Same Q85 a18 a18 := Same.rfl
  refine wp_cond_split (show _ = _ from s34) (fun hf9 => ?_) (fun hf9 => ?_)
  ·
   skip
   refine Q04 49 [[]] [?b21_0] Q08 hr ?t21 ?o21 ?_
   case o21 =>
    apply oc0; intro A W hx hf
    exact Q05
    exact onn
   case t21 => exact inferInstance
   clear hr; intro a22 w22 x hr hd hs
   revert s9; revert s10; refine kp2 hs rfl ?_; intro s10 s9
   clear s11 s34
   have s11 := fa ?b21_0 a22 w22 11 (hd 0 11 rfl)
   replace e_w := e_w.trans x
   replace e_w14 := e_w14.trans x
   clear e_w16
   replace m19 := m19.tr hs rfl; clear hd hs x
   refine et ?_
   refine ⟨hr, m19, e_w, ?_, ?_⟩
   · first | exact Is.int s11 (Qra hf9).symm | exact Is.int s11 (Qrb hf9).symm
   · exact (Q00 e_w14 s9)
  skip
  refine wp_skip ?_
  refine et ?_
  refine ⟨hr, m19, e_w, ?_, ?_⟩
  · first | exact Is.int (Q00 e_w16 s11) (Qra hf9).symm | exact Is.int (Q00 e_w16 s11) (Qrb hf9).symm
  · exact (Q00 e_w14 s9)
 intro a19 w19 hI
 clear e_w
 clear e_w14
 clear e_w16
 clear hr; obtain ⟨hr, hs, e_w, u11, u9⟩ := hI
 revert s10; refine kp1 hs rfl ?_; intro s10
 clear s9 s11 s34
 have s11 := u11; clear u11
 have s9 := u9; clear u9
 replace s10 := anyw (w2 := w19) s10
 clear hs
 refine sq ?_
 refine Q06 (l := [_, _, _, _, _, _]) (rest := [_]) 49 [[(9, none)], [(10, none)], [(11, none)], [(37, some 2)], [(38, some 3)], [(35, some 0), (36, some 1)]] [?b23_0, ?b23_1, ?b23_2, ?b23_3, ?b23_4, ?b23_5] hr ?t23 ?o23 ?_
 case o23 =>
  apply oc0; intro A W hx hf
  exact Q01 (a0 := a19) (r0 hf)
  apply oc0; intro A W hx hf
  exact Q01 (a0 := a19) (r0 hf)
  apply oc0; intro A W hx hf
  exact Q01 (a0 := a19) (r0 hf)
  apply oc0; intro A W hx hf
  exact Q4u (by decide) (p1 s11 hx (q0 ?b23_2 A W 37 hf)) (ec A (.int .i64 256))
  apply oc0; intro A W hx hf
  exact Q15 tu3 tu5 (q0 ?b23_3 A W 38 hf)
  apply oc0; intro A W hx hf
  exact Q34 (atN q) tu22 Q0s (p1 s9 hx (q0 ?b23_0 A W 35 hf)) (Is.int (p1 s10 hx (q1 ?b23_1 A W 36 hf)) (by exact v2)) (by omega)
  exact onn
 case t23 => exact inferInstance
 clear hr; intro a24 w24 x hr hd hs
 revert s10; revert s9; revert s11; refine kp3 hs rfl ?_; intro s11 s9 s10
 have s39 := fa ?b23_4 a24 w24 39 (hd 4 39 rfl)
 have s40 := fa ?b23_5 a24 w24 40 (hd 5 40 rfl)
 replace e_w := e_w.trans x
 have e_w19 := x; clear hd hs x
 have z25 := EpA.lt s40
 have l25 := (show (g5 = 0 ∨ w.heap.size < g5) ∧ True from ⟨by omega, trivial⟩)
 refine Q35 hr Q0s s40 s39 ?_; clear hr; intro a25 w25 hc hu hr hs
 have hb : Below w.heap.size w24 w25 := hc.below e_w.size l25.1
 revert s10; revert s9; revert s11; refine kp3 hs rfl ?_; intro s11 s9 s10
 clear s39 s40
 replace s9 := hu _ _ _ (Q00 e_w19 s9)
 replace e_w := e_w.below (Nat.le_refl _) hb
 clear e_w19
 replace s11 := anyw (w2 := w25) s11
 replace s10 := anyw (w2 := w25) s10
 clear hu hs hc hb
 refine wpList_nil ?_
 refine es ?_
 refine Q06 (l := [_, _, _, _, _, _, _]) (rest := [_]) 49 [[(9, none)], [(10, none)], [(42, some 1)], [(11, none)], [(44, some 3)], [(45, some 4)], [(41, some 0), (43, some 2)]] [?b26_0, ?b26_1, ?b26_2, ?b26_3, ?b26_4, ?b26_5, ?b26_6] hr ?t26 ?o26 ?_
 case o26 =>
  apply oc0; intro A W hx hf
  exact Q01 (a0 := a25) (r0 hf)
  apply oc0; intro A W hx hf
  exact Q01 (a0 := a25) (r0 hf)
  apply oc0; intro A W hx hf
  exact Q0o (p1 s10 hx (q0 ?b26_1 A W 42 hf)) (ec A (.int .i64 1)) (by omega)
  apply oc0; intro A W hx hf
  exact Q01 (a0 := a25) (r0 hf)
  apply oc0; intro A W hx hf
  exact Q4v (by decide) (p1 s11 hx (q0 ?b26_3 A W 44 hf)) (ec A (.int .i64 256))
  apply oc0; intro A W hx hf
  exact Q15 tu3 tu5 (q0 ?b26_4 A W 45 hf)
  apply oc0; intro A W hx hf
  exact Q34 (atN q + 1) tu22 Q0s (p1 s9 hx (q0 ?b26_0 A W 41 hf)) (Is.int (q1 ?b26_2 A W 43 hf) (by omega)) (by simp; omega)
  exact onn
 case t26 => exact inferInstance
 clear hr; intro a27 w27 x hr hd hs
 revert s9; refine kp1 hs rfl ?_; intro s9
 clear s11 s10
 have s46 := fa ?b26_5 a27 w27 46 (hd 5 46 rfl)
 have s47 := fa ?b26_6 a27 w27 47 (hd 6 47 rfl)
 replace e_w := e_w.trans x
 have e_w25 := x; clear hd hs x
 have z28 := EpA.lt s47
 have l28 := (show (g5 = 0 ∨ w.heap.size < g5) ∧ True from ⟨by omega, trivial⟩)
 refine Q35 hr Q0s s47 s46 ?_; clear hr; intro a28 w28 hc hu hr hs
 have hb : Below w.heap.size w27 w28 := hc.below e_w.size l28.1
 revert s9; refine kp1 hs rfl ?_; intro s9
 clear s46 s47
 replace s9 := hu _ _ _ (Q00 e_w25 s9)
 replace e_w := e_w.below (Nat.le_refl _) hb
 clear e_w25
 clear hu hs hc hb
 refine wpList_nil ?_
 refine es ?_
 refine Q04 49 [[(9, none)], [(48, some 0)]] [?b29_0, ?b29_0] Q08 hr ?t29 ?o29 ?_
 case o29 =>
  apply oc0; intro A W hx hf
  exact Q01 (a0 := a28) (r0 hf)
  apply oc0; intro A W hx hf
  exact Q03 (q0 ?b29_0 A W 48 hf)
  exact onn
 case t29 => exact inferInstance
 clear hr; intro a30 w30 x hr hd hs
 have u8 := mv s9 (fa ?b29_0 a30 w30 8 (hd 1 8 rfl))
 clear s9
 have s8 := u8; clear u8
 replace e_w := e_w.trans x
 have e_w28 := x; clear hd hs x
 refine et ?_
 refine wp_ret ?_
 refine Q0r Try.results36 hr e_w ?_
 exact OwnB.cast (OwnB.mono (Q00 e_w28 s8).own hB) (by rw [Q52 hfb, Q53 hfb.1, set2 (by omega)]; exact Qhg v1 rfl rfl)

theorem Qfc {x0 x1 : Value} {w : World} {Sa Da : Adr} (h0 : (Is (AdrV Sa)) x0 w) (h1 : (Is (AdrV Da)) x1 w) (hA : Sa.b.length = 16) (hD : Da.b.length = 16) :
    Calls Try.prog 32 #[x0, x1] w (Ret (Is (.bool (famB Sa Da))) w) := by
 refine enter Try.func32 rfl Try.ntmps32 (k := 2) rfl (by decide) (fun a0 hr hargs => ?_)
 have s0 := sarg h0 (hargs 0 (by decide))
 have s1 := sarg h1 (hargs 1 (by decide))
 clear hargs
 refine sq ?_
 refine Q04 20 [[(0, none)], [(1, none)], []] [?b1_0, ?b1_1, ?b1_2] Q08 hr ?t1 ?o1 ?_
 case o1 =>
  apply oc0; intro A W hx hf
  exact Q1y [[.bool Sa.six], Sa.b.map Q0t] [1, 16] (Is.conv (o1 s0 hx (r0 hf)) (Q1o Sa).symm) (by simp [*]) hx.size
  apply oc0; intro A W hx hf
  exact Q1y [[.bool Da.six], Da.b.map Q0t] [1, 16] (Is.conv (o1 s1 hx (r0 hf)) (Q1o Da).symm) (by simp [*]) hx.size
  apply oc0; intro A W hx hf
  exact Q05
  exact onn
 case t1 => exact inferInstance
 clear hr; intro a2 w2 x hr hd hs
 clear s0 s1
 have s2 := fa ?b1_0 a2 w2 2 (hd 0 2 rfl)
 have s3 := fa ?b1_1 a2 w2 3 (hd 1 3 rfl)
 obtain ⟨g2_2, q2_2⟩ := PxN.at s2; clear s2; have n2_2 := PxS.lt q2_2
 have s2 := q2_2; clear q2_2
 obtain ⟨g2_3, q2_3⟩ := PxN.at s3; clear s3; have n2_3 := PxS.lt q2_3
 have s3 := q2_3; clear q2_3
 have e_w := x; clear hd hs x
 refine es ?_
 refine sq ?_
 refine Q04 20 [[(2, none)], [(5, some 0)], [(3, none)], [(7, some 2)], [(6, some 1), (8, some 3)]] [?b3_0, ?b3_1, ?b3_2, ?b3_3, ?b3_4] Q08 hr ?t3 ?o3 ?_
 case o3 =>
  apply oc0; intro A W hx hf
  exact Q02 0 tu25 (k := 0) rfl Q4r rfl (o1 s2 hx (r0 hf)) rfl
  apply oc0; intro A W hx hf
  exact Q0a tu4 rfl (q0 ?b3_0 A W 5 hf) rfl
  apply oc0; intro A W hx hf
  exact Q02 0 tu25 (k := 0) rfl Q4r rfl (o1 s3 hx (r0 hf)) rfl
  apply oc0; intro A W hx hf
  exact Q0a tu4 rfl (q0 ?b3_2 A W 7 hf) rfl
  apply oc0; intro A W hx hf
  exact Qpc tu4 (q0 ?b3_1 A W 6 hf) (q1 ?b3_3 A W 8 hf)
  exact onn
 case t3 => exact inferInstance
 clear hr; intro a4 w4 x hr hd hs
 revert s3; revert s2; refine kp2 hs rfl ?_; intro s2 s3
 have s9 := fa ?b3_4 a4 w4 9 (hd 4 9 rfl)
 replace e_w := e_w.trans x
 have e_w2 := x; clear hd hs x
 refine et ?_
 refine wp_cond_split (show _ = _ from s9) (fun hne => ?_) (fun hne => ?_)
 ·
  skip
  refine sq ?_
  refine Q04 20 [[]] [?b6_0] Q08 hr ?t6 ?o6 ?_
  case o6 =>
   apply oc0; intro A W hx hf
   exact Q05
   exact onn
  case t6 => exact inferInstance
  clear hr; intro a7 w7 x hr hd hs
  clear s2 s3 s9
  have s4 := fa ?b6_0 a7 w7 4 (hd 0 4 rfl)
  replace e_w := e_w.trans x
  clear e_w2; clear hd hs x
  refine et ?_
  refine wp_ret ?_
  refine Q0e ?_
  refine Q0r Try.results32 hr e_w ?_
  first | exact Is.bool s4 (by unfold famB; rw [if_pos hne]) | exact Is.bool s4 (by unfold famB; rw [if_neg (by rw [hne]; decide)])
 skip
 refine wp_skip ?_
 refine es ?_
 refine Q04 20 [[(2, none)], [(10, some 0)], [(11, some 1)], [(2, none), (12, some 2)], [(13, some 3), (12, some 2)], [(14, some 4), (12, some 2)], [(3, none), (15, some 5)], [(16, some 6), (15, some 5)], [(15, some 5), (17, some 7), (12, some 2)], [(12, some 2), (18, some 8)], [(19, some 9)]] [?b8_0, ?b8_1, ?b8_1, ?b8_3, ?b8_4, ?b8_4, ?b8_6, ?b8_7, ?b8_8, ?b8_9, ?b8_9] Q08 hr ?t8 ?o8 ?_
 case o8 =>
  apply oc0; intro A W hx hf
  exact Q02 0 tu25 (k := 0) rfl Q4r rfl (o2 s2 e_w2 hx (r0 hf)) rfl
  apply oc0; intro A W hx hf
  exact Q0a tu4 rfl (q0 ?b8_0 A W 10 hf) rfl
  apply oc0; intro A W hx hf
  exact Q0h (q0 ?b8_1 A W 11 hf)
  refine ocg 12 ?_ (fun A W hx hf => ?_) ?_
  rfl
  exact gd_f (q1 ?b8_1 A W 12 hf) (fun hc => Q0b 2 tu25 rfl Q0z (o2 s2 e_w2 hx (r0 hf)) rfl)
  refine ocg 12 ?_ (fun A W hx hf => ?_) ?_
  rfl
  exact gd_f (q1 ?b8_1 A W 12 hf) (fun hc => Q18 Qij (Qai (Is.conv (G.get (q0 ?b8_3 A W 13 hf) hc) (Q1o Sa)) (by exact hA)))
  refine ocg 12 ?_ (fun A W hx hf => ?_) ?_
  rfl
  exact gd_f (q1 ?b8_1 A W 12 hf) (fun hc => Q0h (G.get (q0 ?b8_4 A W 14 hf) hc))
  refine ocg 15 ?_ (fun A W hx hf => ?_) ?_
  rfl
  exact Qe7 (q1 ?b8_4 A W 15 hf) (fun hc => Q0b 2 tu25 rfl Q0z (o2 s3 e_w2 hx (r0 hf)) rfl)
  refine ocg 15 ?_ (fun A W hx hf => ?_) ?_
  rfl
  exact Qe7 (q1 ?b8_4 A W 15 hf) (fun hc => Q18 Qij (Qai (Is.conv (G.get (q0 ?b8_6 A W 16 hf) hc) (Q1o Da)) (by exact hD)))
  refine ocg 12 ?_ (fun A W hx hf => ?_) ?_
  rfl
  exact gd_f (q2 ?b8_1 A W 12 hf) (fun hc => Q2p (G.get (q0 ?b8_4 A W 15 hf) hc) (G.strip hc (q1 ?b8_7 A W 17 hf)))
  apply oc0; intro A W hx hf
  exact Q3o (q0 ?b8_1 A W 12 hf) (q1 ?b8_8 A W 18 hf)
  apply oc0; intro A W hx hf
  exact Q03 (q0 ?b8_9 A W 19 hf)
  exact onn
 case t8 => exact inferInstance
 clear hr; intro a9 w9 x hr hd hs
 clear s2 s3 s9
 have s4 := fa ?b8_9 a9 w9 4 (hd 10 4 rfl)
 replace e_w := e_w.trans x
 clear e_w2; clear hd hs x
 refine et ?_
 refine wp_ret ?_
 refine Q0r Try.results32 hr e_w ?_
 first | exact Is.bool s4 (by unfold famB; rw [if_pos hne]) | exact Is.bool s4 (by unfold famB; rw [if_neg (by rw [hne]; decide)])

theorem Qbg {x0 x1 : Value} {w : World} {L : LinkL} {T : TupL} (h0 : (LinkV L) x0 w) (h1 : (Is (TupV T)) x1 w) (hL : Q2i L) (hT9 : Q3f T) :
    Calls Try.prog 31 #[x0, x1] w (Ret (LinkV (Q1v L T.src.six)) w) := by
 obtain ⟨v, eh0, hT, hvh0⟩ := h0
 replace h0 : Is (LnkA L v) x0 w := eh0
 refine enter Try.func31 rfl Try.ntmps31 (k := 2) rfl (by decide) (fun a0 hr hargs => ?_)
 have s0 := sarg h0 (hargs 0 (by decide))
 have s1 := sarg h1 (hargs 1 (by decide))
 clear hargs
 refine sq ?_
 refine Q06 (l := [_]) (rest := [_, _]) 11 [[(0, none)]] [?b1_0] hr ?t1 ?o1 ?_
 case o1 =>
  apply oc0; intro A W hx hf
  exact Q1y (lnkS L v) [6, 6, 1, 1, 1] (o1 s0 hx (r0 hf)) (by exact Q4l hL) hx.size
  exact onn
 case t1 => exact inferInstance
 clear hr; intro a2 w2 x hr hd hs
 revert s1; refine kp1 hs rfl ?_; intro s1
 clear s0
 have s2 := fa ?b1_0 a2 w2 2 (hd 0 2 rfl)
 obtain ⟨g2_2, q2_2⟩ := PxN.at s2; clear s2; have n2_2 := PxS.lt q2_2
 have s2 := q2_2; clear q2_2
 have e_w := x; clear hd hs x
 have l3_2 := PxS.lt s2
 refine Q11 hr (Q1y (tupS T) [1, 16, 1, 16, 1, 1, 1] (Q00 e_w s1) (by exact Q39 hT9) (Nat.le_refl _)) inferInstance ?_; clear hr; intro a3 w3 x hr hd hs
 revert s2; refine kp1 hs rfl ?_; intro s2
 clear s1
 have s3 := hd 3 rfl (by decide)
 obtain ⟨g3_3, q3_3⟩ := PxN.at s3; clear s3; have n3_3 := PxS.lt q3_3
 replace q3_3 := PxS.mono q3_3 e_w.size
 have s3 := q3_3; clear q3_3
 replace e_w := e_w.trans x
 have e_w2 := x; clear hd hs x
 have l4_2 := PxS.lt (Q00 e_w2 s2)
 have l4_3 := PxS.lt s3
 refine Q11 hr (Q0y [(lnkS Q4q (.slice none 0 0)).flatten] [15] Qbw (by rfl) (by rfl) (Nat.le_refl _)) inferInstance ?_; clear hr; intro a4 w4 x hr hd hs
 revert s3; revert s2; refine kp2 hs rfl ?_; intro s2 s3
 have s4 := hd 4 rfl (by decide)
 obtain ⟨g4_4, q4_4⟩ := PxN.at s4; clear s4; have n4_4 := PxS.lt q4_4
 replace q4_4 := PxS.mono q4_4 e_w.size
 have s4 := q4_4; clear q4_4
 replace e_w := e_w.trans x
 replace e_w2 := e_w2.trans x
 have e_w3 := x; clear hd hs x
 refine wpList_nil ?_
 refine es ?_
 refine Q06 (l := [_]) (rest := [_]) 11 [[(2, none)]] [?b5_0] hr ?t5 ?o5 ?_
 case o5 =>
  apply oc0; intro A W hx hf
  exact Q02 3 tu46 (k := 3) rfl Q0m rfl (o2 s2 e_w2 hx (r0 hf)) rfl
  exact onn
 case t5 => exact inferInstance
 clear hr; intro a6 w6 x hr hd hs
 revert s4; revert s3; revert s2; refine kp3 hs rfl ?_; intro s2 s3 s4
 have s5 := fa ?b5_0 a6 w6 5 (hd 0 5 rfl)
 replace e_w := e_w.trans x
 replace e_w2 := e_w2.trans x
 replace e_w3 := e_w3.trans x
 have e_w4 := x; clear hd hs x
 have z7 := PxS.lt s5
 have l7 := (show (g2_2 = 0 ∨ w.heap.size < g2_2) ∧ True from ⟨by omega, trivial⟩)
 have l7_3 := PxS.lt (Q00 e_w3 s3)
 have l7_4 := PxS.lt (Q00 e_w4 s4)
 refine Q1z hr Q0m s5 (ec a6 (.int .i64 2048)) (by rfl) rfl ?_; clear hr; intro a7 w7 hc hu hr hs
 have hb : Below w.heap.size w6 w7 := hc.below e_w.size l7.1
 revert s4; revert s3; revert s2; refine kp3 hs rfl ?_; intro s2 s3 s4
 clear s5
 replace s2 := hu _ _ _ (Q00 e_w2 s2)
 try simp only [List.set_cons_zero, List.set_cons_succ, lnkS] at s2
 replace s3 := PxS.other (Q00 e_w3 s3) hc (by omega)
 replace s4 := PxS.other (Q00 e_w4 s4) hc (by omega)
 replace e_w := e_w.below (Nat.le_refl _) hb
 clear e_w2
 clear e_w3
 clear e_w4
 clear hu hs hc hb
 refine wpList_nil ?_
 refine es ?_
 refine sq ?_
 refine Q04 11 [[(3, none)], [(6, some 0)], [(7, some 1)]] [?b8_0, ?b8_1, ?b8_2] Q08 hr ?t8 ?o8 ?_
 case o8 =>
  apply oc0; intro A W hx hf
  exact Q02 0 tu35 (k := 0) rfl Q0z rfl (o1 s3 hx (r0 hf)) rfl
  apply oc0; intro A W hx hf
  exact Q02 0 tu25 (k := 0) rfl Q4r rfl (q0 ?b8_0 A W 6 hf) rfl
  apply oc0; intro A W hx hf
  exact Q0a tu4 rfl (q0 ?b8_1 A W 7 hf) rfl
  exact onn
 case t8 => exact inferInstance
 clear hr; intro a9 w9 x hr hd hs
 revert s4; revert s2; refine kp2 hs rfl ?_; intro s2 s4
 clear s3
 have s8 := fa ?b8_2 a9 w9 8 (hd 2 8 rfl)
 replace e_w := e_w.trans x
 have e_w7 := x; clear hd hs x
 refine et ?_
 refine wp_cond_split (show _ = _ from s8) (fun h6 => ?_) (fun h6 => ?_)
 ·
  skip
  refine Q06 (l := [_]) (rest := [_]) 11 [[(2, none)]] [?b11_0] hr ?t11 ?o11 ?_
  case o11 =>
   apply oc0; intro A W hx hf
   exact Q02 3 tu46 (k := 3) rfl Q0m rfl (o2 s2 e_w7 hx (r0 hf)) rfl
   exact onn
  case t11 => exact inferInstance
  clear hr; intro a12 w12 x hr hd hs
  revert s4; revert s2; refine kp2 hs rfl ?_; intro s2 s4
  clear s8
  have s9 := fa ?b11_0 a12 w12 9 (hd 0 9 rfl)
  replace e_w := e_w.trans x
  replace e_w7 := e_w7.trans x; clear hd hs x
  have z13 := PxS.lt s9
  have l13 := (show (g2_2 = 0 ∨ w.heap.size < g2_2) ∧ True from ⟨by omega, trivial⟩)
  have l13_4 := PxS.lt (Q00 e_w7 s4)
  refine Q1z hr Q0m s9 (ec a12 (.int .i64 34525)) (by rfl) rfl ?_; clear hr; intro a13 w13 hc hu hr hs
  have hb : Below w.heap.size w12 w13 := hc.below e_w.size l13.1
  revert s4; revert s2; refine kp2 hs rfl ?_; intro s2 s4
  clear s9
  replace s2 := hu _ _ _ (Q00 e_w7 s2)
  try simp only [List.set_cons_zero, List.set_cons_succ, lnkS] at s2
  replace s4 := PxS.other (Q00 e_w7 s4) hc (by omega)
  replace e_w := e_w.below (Nat.le_refl _) hb
  clear e_w7
  clear hu hs hc hb
  refine wpList_nil ?_
  refine es ?_
  refine Q06 (l := [_]) (rest := [_]) 11 [[(2, none)]] [?b14_0] hr ?t14 ?o14 ?_
  case o14 =>
   apply oc0; intro A W hx hf
   exact Q0b 5 tu46 rfl Q2v (o1 s2 hx (r0 hf)) rfl
   exact onn
  case t14 => exact inferInstance
  clear hr; intro a15 w15 x hr hd hs
  revert s4; refine kp1 hs rfl ?_; intro s4
  clear s2
  have s10 := fa ?b14_0 a15 w15 10 (hd 0 10 rfl)
  replace e_w := e_w.trans x
  have e_w13 := x; clear hd hs x
  have z16 := PxS.lt (Q00 e_w13 s4)
  have l16 := (show (g4_4 = 0 ∨ w.heap.size < g4_4) ∧ True from ⟨by omega, trivial⟩)
  refine Q0k hr Q2v (Q00 e_w13 s4) (Is.conv s10 (show _ = LnkA (Q1v L T.src.six) v from by rw [h6]; rfl)) (by exact Q8i (Q3v hL)) (by exact Q6e hvh0) rfl ?_; clear hr; intro a16 w16 hc hu hr hs
  have hb : Below w.heap.size w15 w16 := hc.below e_w.size l16.1
  revert s4; refine kp1 hs rfl ?_; intro s4
  clear s10
  replace s4 := hu _ _ _ (Q00 e_w13 s4)
  try simp only [List.set_cons_zero, List.set_cons_succ, lnkS] at s4
  replace e_w := e_w.below (Nat.le_refl _) hb
  clear e_w13
  clear hu hs hc hb
  refine wpList_nil ?_
  refine et ?_
  refine wp_ret ?_
  refine Q7o Try.results31 hr tu46 rfl Q2v s4 e_w ?_
  exact LinkV.of rfl (Q00 e_w hT)
 skip
 refine wp_skip ?_
 refine es ?_
 refine Q06 (l := [_]) (rest := [_]) 11 [[(2, none)]] [?b17_0] hr ?t17 ?o17 ?_
 case o17 =>
  apply oc0; intro A W hx hf
  exact Q0b 5 tu46 rfl Q2v (o2 s2 e_w7 hx (r0 hf)) rfl
  exact onn
 case t17 => exact inferInstance
 clear hr; intro a18 w18 x hr hd hs
 revert s4; refine kp1 hs rfl ?_; intro s4
 clear s2 s8
 have s10 := fa ?b17_0 a18 w18 10 (hd 0 10 rfl)
 replace e_w := e_w.trans x
 replace e_w7 := e_w7.trans x; clear hd hs x
 have z19 := PxS.lt (Q00 e_w7 s4)
 have l19 := (show (g4_4 = 0 ∨ w.heap.size < g4_4) ∧ True from ⟨by omega, trivial⟩)
 refine Q0k hr Q2v (Q00 e_w7 s4) (Is.conv s10 (show _ = LnkA (Q1v L T.src.six) v from by rw [h6]; rfl)) (by exact Q8i (Q3v hL)) (by exact Q6e hvh0) rfl ?_; clear hr; intro a19 w19 hc hu hr hs
 have hb : Below w.heap.size w18 w19 := hc.below e_w.size l19.1
 revert s4; refine kp1 hs rfl ?_; intro s4
 clear s10
 replace s4 := hu _ _ _ (Q00 e_w7 s4)
 try simp only [List.set_cons_zero, List.set_cons_succ, lnkS] at s4
 replace e_w := e_w.below (Nat.le_refl _) hb
 clear e_w7
 clear hu hs hc hb
 refine wpList_nil ?_
 refine et ?_
 refine wp_ret ?_
 refine Q7o Try.results31 hr tu46 rfl Q2v s4 e_w ?_
 exact LinkV.of rfl (Q00 e_w hT)

def Q86 : List Tmp := [10, 11, 36, 37, 38, 39, 40, 41, 42, 43, 44, 45, 46, 47, 48, 49, 50, 51, 52]
def Q87 : List Tmp := [9, 59, 60, 61, 62, 63, 64, 65, 66, 67, 68, 69, 70, 71, 72, 73, 74, 75, 76, 77, 78, 79, 80, 81, 82, 83, 84]
set_option maxHeartbeats 1000000 in
theorem Q6l {x0 x1 x2 x3 : Value} {w : World} {L : LinkL} {T : TupL} {f : Int} {load : List UInt8} {B : Nat} (h0 : (LinkV L) x0 w) (h1 : (Is (TupV T)) x1 w) (h2 : (Is (.int .i64 f)) x2 w) (h3 : (Bs load) x3 w) (hL : Q2i L) (hT9 : Q3f T) (hr1 : Q17 (Q1v L T.src.six) = true) (hm0 : mayL T f = true) (hn9 : (load.length : Int) + (Q2w T : Int) + (if T.src.six then 0 else 20) ≤ 65535) (hB : B ≤ w.heap.size) :
    Calls Try.prog 18 #[x0, x1, x2, x3] w (Ret (OwnB B 5 (Q1h L T f load)) w) := by
 obtain ⟨v, eh0, hT, hvh0⟩ := h0
 replace h0 : Is (LnkA L v) x0 w := eh0
 have hm := Qc1 hm0
 have hsp := hm.sport
 have hdp := hm.dport
 have hhl := Qc4 T
 have hll := Bs.len_le h3
 have hsl := Q6r T f load
 have hn8 : (load.length : Int) + (Q2w T : Int) ≤ 65535 := by split at hn9 <;> omega
 have hsk := Qa1 (load := load) hm (by omega)
 have hll2 := Q4j (Q3v (six := T.src.six) hL)
 have htl2 := (Q6f hr1).1
 have hs16 := hT9.1
 have hd16 := hT9.2
 refine enter Try.func18 rfl Try.ntmps18 (k := 4) rfl (by decide) (fun a0 hr hargs => ?_)
 have s0 := sarg h0 (hargs 0 (by decide))
 have s1 := sarg h1 (hargs 1 (by decide))
 have s2 := sarg h2 (hargs 2 (by decide))
 have s3 := sarg h3 (hargs 3 (by decide))
 clear hargs
 refine sq ?_
 refine Q04 95 [[(0, none)], [(1, none)], []] [?b1_0, ?b1_1, ?b1_2] Q08 hr ?t1 ?o1 ?_
 case o1 =>
  apply oc0; intro A W hx hf
  exact Q1y (lnkS L v) [6, 6, 1, 1, 1] (o1 s0 hx (r0 hf)) (by exact Q4l hL) hx.size
  apply oc0; intro A W hx hf
  exact Q1y (tupS T) [1, 16, 1, 16, 1, 1, 1] (o1 s1 hx (r0 hf)) (by exact Q39 hT9) hx.size
  apply oc0; intro A W hx hf
  exact Q1l (OwnBA 0 w.heap.size 5 []) (fun _ => Q2o)
  exact onn
 case t1 => exact inferInstance
 clear hr; intro a2 w2 x hr hd hs
 revert s3; revert s2; refine kp2 hs rfl ?_; intro s2 s3
 clear s0 s1
 have s4 := fa ?b1_0 a2 w2 4 (hd 0 4 rfl)
 have s5 := fa ?b1_1 a2 w2 5 (hd 1 5 rfl)
 obtain ⟨g2_4, q2_4⟩ := PxN.at s4; clear s4; have n2_4 := PxS.lt q2_4
 have s4 := q2_4; clear q2_4
 obtain ⟨g2_5, q2_5⟩ := PxN.at s5; clear s5; have n2_5 := PxS.lt q2_5
 have s5 := q2_5; clear q2_5
 have e_w := x; clear hd hs x
 refine es ?_
 refine Q04 95 [[(4, none)], [(5, none)], [(12, some 0), (13, some 1)], [(14, some 2)], [(15, some 3)]] [?b3_0, ?b3_1, ?b3_2, ?b3_3, ?b3_3] Q08 hr ?t3 ?o3 ?_
 case o3 =>
  apply oc0; intro A W hx hf
  exact Q0b 5 tu46 rfl Q2v (o1 s4 hx (r0 hf)) rfl
  apply oc0; intro A W hx hf
  exact Q0b 7 tu35 rfl Q37 (o1 s5 hx (r0 hf)) rfl
  apply oc0; intro A W hx hf
  exact Q0p Qmm (Qbg (LinkV.of (show Is (LnkA L v) _ _ from (q0 ?b3_0 A W 12 hf)) (Q00 (e_w.trans hx) hT)) (show Is (TupV T) _ _ from (q1 ?b3_1 A W 13 hf)) (by exact hL) (by exact hT9))
  apply oc0; intro A W hx hf
  exact Q18 Qpo (Qop (q0 ?b3_2 A W 14 hf) (by exact Q3v hL) (by exact hr1) hx.size)
  apply oc0; intro A W hx hf
  exact Q03 (q0 ?b3_3 A W 15 hf)
  exact onn
 case t3 => exact inferInstance
 clear hr; intro a4 w4 x hr hd hs
 have z_w_w2 := e_w.size
 have l4_4 := PxS.lt s4
 have l4_5 := PxS.lt s5
 revert s5; revert s3; revert s2; refine kp3 hs rfl ?_; intro s2 s3 s5
 clear s4
 have s9 := fa ?b3_3 a4 w4 9 (hd 4 9 rfl)
 obtain ⟨g4_9, q4_9⟩ := OwnB.at s9; clear s9; have n4_9 := OwnBA.lt q4_9
 replace q4_9 := OwnBA.mono q4_9 e_w.size
 have s9 := q4_9; clear q4_9
 replace e_w := e_w.trans x
 have e_w2 := x; clear hd hs x
 refine es ?_
 refine Q04 95 [[(5, none)], [(16, some 0)], [(17, some 1)], [(18, some 2)], [(5, none)], [(20, some 4)], [(21, some 5)], [(22, some 6)], [(5, none)], [(24, some 8)], [(25, some 9)], [(26, some 10)], [(5, none)], [(28, some 12)], [(29, some 13)], [(30, some 14)], [(19, some 3), (23, some 7), (27, some 11), (31, some 15)], [(32, some 16)]] [?b5_0, ?b5_1, ?b5_2, ?b5_3, ?b5_4, ?b5_5, ?b5_6, ?b5_7, ?b5_8, ?b5_9, ?b5_10, ?b5_11, ?b5_12, ?b5_13, ?b5_14, ?b5_15, ?b5_16, ?b5_16] Q08 hr ?t5 ?o5 ?_
 case o5 =>
  apply oc0; intro A W hx hf
  exact Q02 5 tu35 (k := 3) rfl Q0m rfl (o2 s5 e_w2 hx (r0 hf)) rfl
  apply oc0; intro A W hx hf
  exact Q0a tu3 rfl (q0 ?b5_0 A W 16 hf) rfl
  apply oc0; intro A W hx hf
  exact Q4u (by decide) (q0 ?b5_1 A W 17 hf) (ec A (.int .i64 256))
  apply oc0; intro A W hx hf
  exact Q15 tu3 tu5 (q0 ?b5_2 A W 18 hf)
  apply oc0; intro A W hx hf
  exact Q02 5 tu35 (k := 3) rfl Q0m rfl (o2 s5 e_w2 hx (r0 hf)) rfl
  apply oc0; intro A W hx hf
  exact Q0a tu3 rfl (q0 ?b5_4 A W 20 hf) rfl
  apply oc0; intro A W hx hf
  exact Q4v (by decide) (q0 ?b5_5 A W 21 hf) (ec A (.int .i64 256))
  apply oc0; intro A W hx hf
  exact Q15 tu3 tu5 (q0 ?b5_6 A W 22 hf)
  apply oc0; intro A W hx hf
  exact Q02 6 tu35 (k := 4) rfl Q0m rfl (o2 s5 e_w2 hx (r0 hf)) rfl
  apply oc0; intro A W hx hf
  exact Q0a tu3 rfl (q0 ?b5_8 A W 24 hf) rfl
  apply oc0; intro A W hx hf
  exact Q4u (by decide) (q0 ?b5_9 A W 25 hf) (ec A (.int .i64 256))
  apply oc0; intro A W hx hf
  exact Q15 tu3 tu5 (q0 ?b5_10 A W 26 hf)
  apply oc0; intro A W hx hf
  exact Q02 6 tu35 (k := 4) rfl Q0m rfl (o2 s5 e_w2 hx (r0 hf)) rfl
  apply oc0; intro A W hx hf
  exact Q0a tu3 rfl (q0 ?b5_12 A W 28 hf) rfl
  apply oc0; intro A W hx hf
  exact Q4v (by decide) (q0 ?b5_13 A W 29 hf) (ec A (.int .i64 256))
  apply oc0; intro A W hx hf
  exact Q15 tu3 tu5 (q0 ?b5_14 A W 30 hf)
  apply oc0; intro A W hx hf
  exact Q3c [(.tmp 19), (.tmp 23), (.tmp 27), (.tmp 31)] [_, _, _, _] tu22 Q0s Q45 rfl rfl (by decide) hx.size (PartsOk.cons (q0 ?b5_3 A W 19 hf) (PartsOk.cons (q1 ?b5_7 A W 23 hf) (PartsOk.cons (q2 ?b5_11 A W 27 hf) (PartsOk.cons (q3 ?b5_15 A W 31 hf) (PartsOk.nil)))))
  apply oc0; intro A W hx hf
  exact Q03 (q0 ?b5_16 A W 32 hf)
  exact onn
 case t5 => exact inferInstance
 clear hr; intro a6 w6 x hr hd hs
 have z_w_w4 := e_w.size
 have z_w2_w4 := e_w2.size
 have l6_5 := PxS.lt (Q00 e_w2 s5)
 have l6_9 := OwnBA.lt s9
 revert s9; revert s5; revert s3; revert s2; refine kp4 hs rfl ?_; intro s2 s3 s5 s9
 have s10 := fa ?b5_16 a6 w6 10 (hd 17 10 rfl)
 obtain ⟨g6_10, q6_10⟩ := OwnB.at s10; clear s10; have n6_10 := OwnBA.lt q6_10
 replace q6_10 := OwnBA.mono q6_10 e_w.size
 have s10 := q6_10; clear q6_10
 replace e_w := e_w.trans x
 replace e_w2 := e_w2.trans x
 have e_w4 := x; clear hd hs x
 replace s10 := OwnBA.cast s10 (show _ = put2 T.sport ++ put2 T.dport from by rw [Q52 hsp, Q53 hsp.1, Q52 hdp, Q53 hdp.1, show ((2 : Int) ^ 8) = 256 from rfl]; rfl)
 refine es ?_
 refine sq ?_
 refine Q04 95 [[(5, none)], [(33, some 0)], [(34, some 1)]] [?b7_0, ?b7_1, ?b7_2] Q08 hr ?t7 ?o7 ?_
 case o7 =>
  apply oc0; intro A W hx hf
  exact Q02 4 tu35 (k := 2) rfl Q0m rfl (o2 s5 e_w2 hx (r0 hf)) rfl
  apply oc0; intro A W hx hf
  exact Q0a tu3 rfl (q0 ?b7_0 A W 33 hf) rfl
  apply oc0; intro A W hx hf
  exact Q1i (q0 ?b7_1 A W 34 hf) (ec A (.int .i64 17))
  exact onn
 case t7 => exact inferInstance
 clear hr; intro a8 w8 x hr hd hs
 revert s10; revert s9; revert s5; revert s3; revert s2; refine kp5 hs rfl ?_; intro s2 s3 s5 s9 s10
 have s35 := fa ?b7_2 a8 w8 35 (hd 2 35 rfl)
 replace e_w := e_w.trans x
 replace e_w2 := e_w2.trans x
 replace e_w4 := e_w4.trans x
 have e_w6 := x; clear hd hs x
 refine et ?_
 refine Q33 (fun A W => ∃ (δ : Nat), Fr 95 A ∧ Same Q86 a8 A ∧ Ext w W ∧ (g4_9 = 0 ∨ g4_9 ≠ δ) ∧ (g2_5 ≠ δ) ∧ (PxS g2_5 w.heap.size [1, 16, 1, 16, 1, 1, 1] (tupS T) 0) (A.eval (.tmp 5)) W ∧ (OwnBA g4_9 w.heap.size 5 (Q23 (Q1v L T.src.six))) (A.eval (.tmp 9)) W ∧ (OwnBA δ w.heap.size 5 (put2 T.sport ++ put2 T.dport ++ (if T.proto = 17 then put2 (8 + (load.length : Int)) ++ [0, 0] else [0, 0, 0, 0, 0, 0, 0, 0, 80, b8 f, 0, 0, 0, 0, 0, 0]))) (A.eval (.tmp 10)) W) ?cut9 ?_
 case cut9 =>
  have m9 : Same Q86 a8 a8 := Same.rfl
  refine wp_cond_split (show _ = _ from s35) (fun h17 => ?_) (fun h17 => ?_)
  ·
   have h17 : T.proto = 17 := by simpa using h17
   have hb9 : 0 ≤ 8 + (load.length : Int) ∧ 8 + (load.length : Int) ≤ 65535 := by omega
   refine sq ?_
   refine Q04 95 [[(3, none)], [(36, some 0)], [(37, some 1)], [(38, some 2)]] [?b11_0, ?b11_1, ?b11_2, ?b11_2] Q08 hr ?t11 ?o11 ?_
   case o11 =>
    apply oc0; intro A W hx hf
    exact Q01 (a0 := a8) (r0 hf)
    apply oc0; intro A W hx hf
    exact Q0v tu22 (p2 s3 e_w hx (q0 ?b11_0 A W 36 hf))
    apply oc0; intro A W hx hf
    exact Q0o (ec A (.int .i64 8)) (q0 ?b11_1 A W 37 hf) (by omega)
    apply oc0; intro A W hx hf
    exact Q03 (q0 ?b11_2 A W 38 hf)
    exact onn
   case t11 => exact inferInstance
   clear hr; intro a12 w12 x hr hd hs
   revert s10; revert s9; revert s5; revert s3; refine kp4 hs rfl ?_; intro s3 s5 s9 s10
   clear s2 s35
   have s11 := fa ?b11_2 a12 w12 11 (hd 3 11 rfl)
   replace e_w := e_w.trans x
   replace e_w2 := e_w2.trans x
   replace e_w4 := e_w4.trans x
   replace e_w6 := e_w6.trans x
   replace m9 := m9.tr hs rfl; clear hd hs x
   refine et ?_
   refine Q06 (l := [_, _, _, _, _, _, _, _]) (rest := [_, _]) 95 [[(10, none)], [(11, none)], [(40, some 1)], [(41, some 2)], [(11, none)], [(43, some 4)], [(44, some 5)], [(42, some 3), (45, some 6)]] [?b13_0, ?b13_1, ?b13_2, ?b13_3, ?b13_4, ?b13_5, ?b13_6, ?b13_7] hr ?t13 ?o13 ?_
   case o13 =>
    apply oc0; intro A W hx hf
    exact Q01 (a0 := a12) (r0 hf)
    apply oc0; intro A W hx hf
    exact Q01 (a0 := a12) (r0 hf)
    apply oc0; intro A W hx hf
    exact Q4u (by decide) (p1 s11 hx (q0 ?b13_1 A W 40 hf)) (ec A (.int .i64 256))
    apply oc0; intro A W hx hf
    exact Q15 tu3 tu5 (q0 ?b13_2 A W 41 hf)
    apply oc0; intro A W hx hf
    exact Q01 (a0 := a12) (r0 hf)
    apply oc0; intro A W hx hf
    exact Q4v (by decide) (p1 s11 hx (q0 ?b13_4 A W 43 hf)) (ec A (.int .i64 256))
    apply oc0; intro A W hx hf
    exact Q15 tu3 tu5 (q0 ?b13_5 A W 44 hf)
    apply oc0; intro A W hx hf
    exact Q21 [(.tmp 42), (.tmp 45), (.const (.int .u8 0)), (.const (.int .u8 0))] [_, _, _, _] tu22 Q0s Q45 rfl rfl (by decide) (PartsOk.cons (q0 ?b13_3 A W 42 hf) (PartsOk.cons (q1 ?b13_6 A W 45 hf) (PartsOk.cons (show ByteIs 0 _ _ from rfl) (PartsOk.cons (show ByteIs 0 _ _ from rfl) (PartsOk.nil)))))
    exact onn
   case t13 => exact inferInstance
   clear hr; intro a14 w14 x hr hd hs
   have u39 := mv s10 (fa ?b13_0 a14 w14 39 (hd 0 39 rfl))
   revert s10; revert s9; revert s5; revert s3; refine kp4 hs rfl ?_; intro s3 s5 s9 s10
   clear s11
   have s39 := u39; clear u39
   have s46 := fa ?b13_7 a14 w14 46 (hd 7 46 rfl)
   replace e_w := e_w.trans x
   replace e_w2 := e_w2.trans x
   replace e_w4 := e_w4.trans x
   replace e_w6 := e_w6.trans x
   replace m9 := m9.tr hs rfl; clear hd hs x
   have l15 := OwnBA.lt (Q00 e_w6 s39)
   have l15_5 := PxS.lt (Q00 e_w2 s5)
   have l15_9 := OwnBA.lt (Q00 e_w4 s9)
   refine Q0u hr (by decide) tu22 Q3u rfl (Q00 e_w6 s39) s46 e_w.size (by first | (simp [Q0d]; done) | (simp [Q0d]; omega) | (simp only [List.length_append, Q0d, hll2, hk40, List.length_cons, List.length_nil]; have := htl2; show _; change (14 + 4 * (Q1v L T.src.six).tags.length + _) * 1 ≤ _ ∧ _; omega) | (have hk9 := Q5q (n := ((segL T f load).length : Int)) hT9; have hfl9 := Q4y (Sa := T.src) (Da := T.dst) hsk; simp only [List.length_append, hll2, hk9, hfl9]; split <;> omega) | (simp only [List.length_append, Q0d, List.length_cons, List.length_nil]; split <;> simp [Q0d] <;> omega)) ?_; clear hr; intro g15 a15 w15 hg15 hc hr hd hs
   have hb := hc.below e_w.size l15.1
   revert s9; revert s5; revert s3; refine kp3 hs rfl ?_; intro s3 s5 s9
   clear s10 s39 s46
   replace s5 := PxS.other (Q00 e_w2 s5) hc (by omega)
   replace s9 := OwnBA.other (Q00 e_w4 s9) hc (by omega)
   have s47 := hd
   replace e_w := e_w.below (Nat.le_refl _) hb
   clear e_w2
   clear e_w4
   clear e_w6
   replace m9 := m9.tr hs rfl
   clear hd hs hb hc
   refine Q11 hr (Q03 s47) inferInstance ?_; clear hr; intro a16 w16 x hr hd hs
   revert s9; revert s5; revert s3; refine kp3 hs rfl ?_; intro s3 s5 s9
   clear s47
   have s10 := hd 10 rfl (by decide)
   replace e_w := e_w.trans x
   have e_w15 := x
   replace m9 := m9.tr hs rfl; clear hd hs x
   refine wpList_nil ?_
   refine et ?_
   refine ⟨g15, hr, m9, e_w, (by first | assumption | omega), (by first | assumption | omega), ?_, ?_, ?_⟩
   · exact (Q00 e_w15 s5)
   · exact (Q00 e_w15 s9)
   · first | exact OwnBA.cast s10 (by rw [if_pos h17, Q52 hb9, Q53 hb9.1, show ((2 : Int) ^ 8) = 256 from rfl]; rfl) | exact OwnBA.cast s10 (by rw [if_neg h17])
  have h17 : ¬ T.proto = 17 := by simpa using h17
  refine Q06 (l := [_, _, _, _]) (rest := [_, _]) 95 [[(10, none)], [(2, none)], [(49, some 1)], [(50, some 2)]] [?b17_0, ?b17_1, ?b17_2, ?b17_3] hr ?t17 ?o17 ?_
  case o17 =>
   apply oc0; intro A W hx hf
   exact Q01 (a0 := a8) (r0 hf)
   apply oc0; intro A W hx hf
   exact Q01 (a0 := a8) (r0 hf)
   apply oc0; intro A W hx hf
   exact Q15 tu3 tu5 (p2 s2 e_w hx (q0 ?b17_1 A W 49 hf))
   apply oc0; intro A W hx hf
   exact Q21 [(.const (.int .u8 0)), (.const (.int .u8 0)), (.const (.int .u8 0)), (.const (.int .u8 0)), (.const (.int .u8 0)), (.const (.int .u8 0)), (.const (.int .u8 0)), (.const (.int .u8 0)), (.const (.int .u8 80)), (.tmp 50), (.const (.int .u8 0)), (.const (.int .u8 0)), (.const (.int .u8 0)), (.const (.int .u8 0)), (.const (.int .u8 0)), (.const (.int .u8 0))] [_, _, _, _, _, _, _, _, _, _, _, _, _, _, _, _] tu22 Q0s Q45 rfl rfl (by decide) (PartsOk.cons (show ByteIs 0 _ _ from rfl) (PartsOk.cons (show ByteIs 0 _ _ from rfl) (PartsOk.cons (show ByteIs 0 _ _ from rfl) (PartsOk.cons (show ByteIs 0 _ _ from rfl) (PartsOk.cons (show ByteIs 0 _ _ from rfl) (PartsOk.cons (show ByteIs 0 _ _ from rfl) (PartsOk.cons (show ByteIs 0 _ _ from rfl) (PartsOk.cons (show ByteIs 0 _ _ from rfl) (PartsOk.cons (show ByteIs 80 _ _ from rfl) (PartsOk.cons (q0 ?b17_2 A W 50 hf) (PartsOk.cons (show ByteIs 0 _ _ from rfl) (PartsOk.cons (show ByteIs 0 _ _ from rfl) (PartsOk.cons (show ByteIs 0 _ _ from rfl) (PartsOk.cons (show ByteIs 0 _ _ from rfl) (PartsOk.cons (show ByteIs 0 _ _ from rfl) (PartsOk.cons (show ByteIs 0 _ _ from rfl) (PartsOk.nil)))))))))))))))))
   exact onn
  case t17 => exact inferInstance
  clear hr; intro a18 w18 x hr hd hs
  have u48 := mv s10 (fa ?b17_0 a18 w18 48 (hd 0 48 rfl))
  revert s10; revert s9; revert s5; revert s3; refine kp4 hs rfl ?_; intro s3 s5 s9 s10
  clear s2 s35
  have s48 := u48; clear u48
  have s51 := fa ?b17_3 a18 w18 51 (hd 3 51 rfl)
  replace e_w := e_w.trans x
  replace e_w2 := e_w2.trans x
  replace e_w4 := e_w4.trans x
  replace e_w6 := e_w6.trans x
  replace m9 := m9.tr hs rfl; clear hd hs x
  have l19 := OwnBA.lt (Q00 e_w6 s48)
  have l19_5 := PxS.lt (Q00 e_w2 s5)
  have l19_9 := OwnBA.lt (Q00 e_w4 s9)
  refine Q0u hr (by decide) tu22 Q3u rfl (Q00 e_w6 s48) s51 e_w.size (by first | (simp [Q0d]; done) | (simp [Q0d]; omega) | (simp only [List.length_append, Q0d, hll2, hk40, List.length_cons, List.length_nil]; have := htl2; show _; change (14 + 4 * (Q1v L T.src.six).tags.length + _) * 1 ≤ _ ∧ _; omega) | (have hk9 := Q5q (n := ((segL T f load).length : Int)) hT9; have hfl9 := Q4y (Sa := T.src) (Da := T.dst) hsk; simp only [List.length_append, hll2, hk9, hfl9]; split <;> omega) | (simp only [List.length_append, Q0d, List.length_cons, List.length_nil]; split <;> simp [Q0d] <;> omega)) ?_; clear hr; intro g19 a19 w19 hg19 hc hr hd hs
  have hb := hc.below e_w.size l19.1
  revert s9; revert s5; revert s3; refine kp3 hs rfl ?_; intro s3 s5 s9
  clear s10 s48 s51
  replace s5 := PxS.other (Q00 e_w2 s5) hc (by omega)
  replace s9 := OwnBA.other (Q00 e_w4 s9) hc (by omega)
  have s52 := hd
  replace e_w := e_w.below (Nat.le_refl _) hb
  clear e_w2
  clear e_w4
  clear e_w6
  replace m9 := m9.tr hs rfl
  clear hd hs hb hc
  refine Q11 hr (Q03 s52) inferInstance ?_; clear hr; intro a20 w20 x hr hd hs
  revert s9; revert s5; revert s3; refine kp3 hs rfl ?_; intro s3 s5 s9
  clear s52
  have s10 := hd 10 rfl (by decide)
  replace e_w := e_w.trans x
  have e_w19 := x
  replace m9 := m9.tr hs rfl; clear hd hs x
  refine wpList_nil ?_
  refine et ?_
  refine ⟨g19, hr, m9, e_w, (by first | assumption | omega), (by first | assumption | omega), ?_, ?_, ?_⟩
  · exact (Q00 e_w19 s5)
  · exact (Q00 e_w19 s9)
  · first | exact OwnBA.cast s10 (by rw [if_pos h17, Q52 hb9, Q53 hb9.1, show ((2 : Int) ^ 8) = 256 from rfl]; rfl) | exact OwnBA.cast s10 (by rw [if_neg h17])
 intro a9 w9 hI
 clear e_w
 clear e_w2
 clear e_w4
 clear e_w6
 clear hr; obtain ⟨δ, hr, hs, e_w, nd9, nd5, u5, u9, u10⟩ := hI
 revert s3; refine kp1 hs rfl ?_; intro s3
 clear s2 s5 s9 s10 s35
 have s5 := u5; clear u5
 have s9 := u9; clear u9
 have s10 := u10; clear u10
 clear hs
 refine sq ?_
 refine Q06 (l := [_, _]) (rest := [_, _]) 95 [[(10, none)], [(3, none)]] [?b21_0, ?b21_1] hr ?t21 ?o21 ?_
 case o21 =>
  apply oc0; intro A W hx hf
  exact Q01 (a0 := a9) (r0 hf)
  apply oc0; intro A W hx hf
  exact Q01 (a0 := a9) (r0 hf)
  exact onn
 case t21 => exact inferInstance
 clear hr; intro a22 w22 x hr hd hs
 have u53 := mv s10 (fa ?b21_0 a22 w22 53 (hd 0 53 rfl))
 have u54 := mv s3 (fa ?b21_1 a22 w22 54 (hd 1 54 rfl))
 revert s10; revert s9; revert s5; refine kp3 hs rfl ?_; intro s5 s9 s10
 clear s3
 have s53 := u53; clear u53
 have s54 := u54; clear u54
 replace e_w := e_w.trans x
 have e_w9 := x; clear hd hs x
 have l23 := OwnBA.lt (Q00 e_w9 s53)
 have l23_5 := PxS.lt (Q00 e_w9 s5)
 have l23_9 := OwnBA.lt (Q00 e_w9 s9)
 refine Q0u hr (by decide) tu22 Q3u rfl (Q00 e_w9 s53) (Q00 e_w s54) e_w.size (by first | (simp [Q0d]; done) | (simp [Q0d]; omega) | (simp only [List.length_append, Q0d, hll2, hk40, List.length_cons, List.length_nil]; have := htl2; show _; change (14 + 4 * (Q1v L T.src.six).tags.length + _) * 1 ≤ _ ∧ _; omega) | (have hk9 := Q5q (n := ((segL T f load).length : Int)) hT9; have hfl9 := Q4y (Sa := T.src) (Da := T.dst) hsk; simp only [List.length_append, hll2, hk9, hfl9]; split <;> omega) | (simp only [List.length_append, Q0d, List.length_cons, List.length_nil]; split <;> simp [Q0d] <;> omega)) ?_; clear hr; intro g23 a23 w23 hg23 hc hr hd hs
 have hb := hc.below e_w.size l23.1
 revert s9; revert s5; refine kp2 hs rfl ?_; intro s5 s9
 clear s10 s53 s54
 replace s5 := PxS.other (Q00 e_w9 s5) hc (by omega)
 replace s9 := OwnBA.other (Q00 e_w9 s9) hc (by omega)
 have s55 := hd
 replace e_w := e_w.below (Nat.le_refl _) hb
 clear e_w9
 clear hd hs hb hc
 refine Q11 hr (Q03 s55) inferInstance ?_; clear hr; intro a24 w24 x hr hd hs
 revert s9; revert s5; refine kp2 hs rfl ?_; intro s5 s9
 clear s55
 have s10 := hd 10 rfl (by decide)
 replace e_w := e_w.trans x
 have e_w23 := x; clear hd hs x
 refine wpList_nil ?_
 replace s10 := OwnBA.cast s10 (show _ = segL T f load from rfl)
 refine es ?_
 refine sq ?_
 refine Q04 95 [[(5, none)], [(56, some 0)], [(57, some 1)]] [?b25_0, ?b25_1, ?b25_2] Q08 hr ?t25 ?o25 ?_
 case o25 =>
  apply oc0; intro A W hx hf
  exact Q02 0 tu35 (k := 0) rfl Q0z rfl (o2 s5 e_w23 hx (r0 hf)) rfl
  apply oc0; intro A W hx hf
  exact Q02 0 tu25 (k := 0) rfl Q4r rfl (q0 ?b25_0 A W 56 hf) rfl
  apply oc0; intro A W hx hf
  exact Q0a tu4 rfl (q0 ?b25_1 A W 57 hf) rfl
  exact onn
 case t25 => exact inferInstance
 clear hr; intro a26 w26 x hr hd hs
 revert s10; revert s9; revert s5; refine kp3 hs rfl ?_; intro s5 s9 s10
 have s58 := fa ?b25_2 a26 w26 58 (hd 2 58 rfl)
 replace e_w := e_w.trans x
 replace e_w23 := e_w23.trans x
 have e_w24 := x; clear hd hs x
 refine et ?_
 refine Q33 (fun A W => ∃ (ε : Nat), Fr 95 A ∧ Same Q87 a26 A ∧ Ext w W ∧ (g23 = 0 ∨ g23 ≠ ε) ∧ (g2_5 ≠ ε) ∧ (PxS g2_5 w.heap.size [1, 16, 1, 16, 1, 1, 1] (tupS T) 0) (A.eval (.tmp 5)) W ∧ (OwnBA ε w.heap.size 5 (Q23 (Q1v L T.src.six) ++ ipL T ((segL T f load).length : Int))) (A.eval (.tmp 9)) W ∧ (OwnBA g23 w.heap.size 5 (segL T f load)) (A.eval (.tmp 10)) W) ?cut27 ?_
 case cut27 =>
  have m27 : Same Q87 a26 a26 := Same.rfl
  refine wp_cond_split (show _ = _ from s58) (fun h6 => ?_) (fun h6 => ?_)
  ·
   have hrt := Q9y (n := ((segL T f load).length : Int)) hm h6 (by omega)
   have hk40 := Qbc (H := Q77 T ((segL T f load).length : Int)) hT9
   refine Q06 (l := [_, _, _, _, _, _, _, _, _, _, _, _]) (rest := [_, _]) 95 [[(9, none)], [(10, none)], [(60, some 1)], [(61, some 2)], [(5, none)], [(63, some 4)], [(5, none)], [(65, some 6)], [(5, none)], [(67, some 8)], [(62, some 3), (64, some 5), (66, some 7), (68, some 9)], [(69, some 10)]] [?b29_0, ?b29_1, ?b29_2, ?b29_3, ?b29_4, ?b29_5, ?b29_6, ?b29_7, ?b29_8, ?b29_9, ?b29_10, ?b29_11] hr ?t29 ?o29 ?_
   case o29 =>
    apply oc0; intro A W hx hf
    exact Q01 (a0 := a26) (r0 hf)
    apply oc0; intro A W hx hf
    exact Q01 (a0 := a26) (r0 hf)
    apply oc0; intro A W hx hf
    exact Q0v tu22 (OwnBA.bs (p2 s10 e_w24 hx (q0 ?b29_1 A W 60 hf)))
    apply oc0; intro A W hx hf
    exact Q0o (ec A (.int .i64 40)) (q0 ?b29_2 A W 61 hf) (by omega)
    apply oc0; intro A W hx hf
    exact Q02 4 tu35 (k := 2) rfl Q0m rfl (o2 s5 e_w23 hx (r0 hf)) rfl
    apply oc0; intro A W hx hf
    exact Q0a tu3 rfl (q0 ?b29_4 A W 63 hf) rfl
    apply oc0; intro A W hx hf
    exact Q02 0 tu35 (k := 0) rfl Q0z rfl (o2 s5 e_w23 hx (r0 hf)) rfl
    apply oc0; intro A W hx hf
    exact Q0b 2 tu25 rfl Q0z (q0 ?b29_6 A W 65 hf) rfl
    apply oc0; intro A W hx hf
    exact Q02 2 tu35 (k := 1) rfl Q0z rfl (o2 s5 e_w23 hx (r0 hf)) rfl
    apply oc0; intro A W hx hf
    exact Q0b 4 tu25 rfl Q0z (q0 ?b29_8 A W 67 hf) rfl
    apply oc0; intro A W hx hf
    exact Q1e [(0, (.const (.int .i64 40))), (1, (.tmp 62)), (2, (.const (.int .i64 64))), (5, (.tmp 64)), (6, (.tmp 66)), (7, (.tmp 68))] [(0, _), (1, _), (2, _), (5, _), (6, _), (7, _)] Qqi rfl (PartsC.one (ec A (.int .i64 40)) rfl (PartsC.one (q0 ?b29_3 A W 62 hf) rfl (PartsC.one (ec A (.int .i64 64)) rfl (PartsC.one (q1 ?b29_5 A W 64 hf) rfl (PartsC.agg (q2 ?b29_7 A W 66 hf) (PartsC.agg (q3 ?b29_9 A W 68 hf) (PartsC.nil))))))) (by simp [tupS, hs16, hd16])
    apply oc0; intro A W hx hf
    exact Q18 Qpp (Qor (Is.conv (q0 ?b29_10 A W 69 hf) (show _ = SixV (Q77 T ((segL T f load).length : Int)) from by simp [SixV, sixS, Q77, Q0l, Q5b, tupS])) (by exact hT9) (by show (40 : Int) ≤ 40 + ((segL T f load).length : Int) ∧ 40 + ((segL T f load).length : Int) ≤ 65575; omega) hx.size)
    exact onn
   case t29 => exact inferInstance
   clear hr; intro a30 w30 x hr hd hs
   have z_w_w26 := e_w.size
   have z_w23_w26 := e_w23.size
   have z_w24_w26 := e_w24.size
   have l30_5 := PxS.lt (Q00 e_w23 s5)
   have l30_9 := OwnBA.lt (Q00 e_w23 s9)
   have l30_10 := OwnBA.lt (Q00 e_w24 s10)
   have u59 := mv s9 (fa ?b29_0 a30 w30 59 (hd 0 59 rfl))
   revert s10; revert s9; revert s5; refine kp3 hs rfl ?_; intro s5 s9 s10
   clear s58
   have s59 := u59; clear u59
   have s70 := fa ?b29_11 a30 w30 70 (hd 11 70 rfl)
   obtain ⟨g30_70, q30_70⟩ := OwnB.at s70; clear s70; have n30_70 := OwnBA.lt q30_70
   replace q30_70 := OwnBA.mono q30_70 e_w.size
   have s70 := q30_70; clear q30_70
   replace e_w := e_w.trans x
   replace e_w23 := e_w23.trans x
   replace e_w24 := e_w24.trans x
   replace m27 := m27.tr hs rfl; clear hd hs x
   have l31 := OwnBA.lt (Q00 e_w23 s59)
   have l31_5 := PxS.lt (Q00 e_w23 s5)
   have l31_10 := OwnBA.lt (Q00 e_w24 s10)
   refine Q0u hr (by decide) tu22 Q3u rfl (Q00 e_w23 s59) (OwnBA.bs s70) e_w.size (by first | (simp [Q0d]; done) | (simp [Q0d]; omega) | (simp only [List.length_append, Q0d, hll2, hk40, List.length_cons, List.length_nil]; have := htl2; show _; change (14 + 4 * (Q1v L T.src.six).tags.length + _) * 1 ≤ _ ∧ _; omega) | (have hk9 := Q5q (n := ((segL T f load).length : Int)) hT9; have hfl9 := Q4y (Sa := T.src) (Da := T.dst) hsk; simp only [List.length_append, hll2, hk9, hfl9]; split <;> omega) | (simp only [List.length_append, Q0d, List.length_cons, List.length_nil]; split <;> simp [Q0d] <;> omega)) ?_; clear hr; intro g31 a31 w31 hg31 hc hr hd hs
   have hb := hc.below e_w.size l31.1
   revert s10; revert s5; refine kp2 hs rfl ?_; intro s5 s10
   clear s9 s59 s70
   replace s5 := PxS.other (Q00 e_w23 s5) hc (by omega)
   replace s10 := OwnBA.other (Q00 e_w24 s10) hc (by omega)
   have s71 := hd
   replace e_w := e_w.below (Nat.le_refl _) hb
   clear e_w23
   clear e_w24
   replace m27 := m27.tr hs rfl
   clear hd hs hb hc
   refine Q11 hr (Q03 s71) inferInstance ?_; clear hr; intro a32 w32 x hr hd hs
   revert s10; revert s5; refine kp2 hs rfl ?_; intro s5 s10
   clear s71
   have s9 := hd 9 rfl (by decide)
   replace e_w := e_w.trans x
   have e_w31 := x
   replace m27 := m27.tr hs rfl; clear hd hs x
   refine wpList_nil ?_
   refine et ?_
   refine ⟨g31, hr, m27, e_w, (by first | assumption | omega), (by first | assumption | omega), ?_, ?_, ?_⟩
   · exact (Q00 e_w31 s5)
   · first | exact OwnBA.cast s9 (by unfold ipL; rw [if_pos h6]) | exact OwnBA.cast s9 (by unfold ipL; rw [if_neg (by rw [h6]; decide)])
   · exact (Q00 e_w31 s10)
  have hn6 : (load.length : Int) + (Q2w T : Int) + 20 ≤ 65535 := by rw [h6] at hn9; simpa using hn9
  have hrt := Q8u (n := ((segL T f load).length : Int)) hm h6 (by omega)
  have hk40 := Qa3 (H := Q28 T ((segL T f load).length : Int)) hT9
  refine Q06 (l := [_, _, _, _, _, _, _, _, _, _, _, _]) (rest := [_, _]) 95 [[(9, none)], [(10, none)], [(73, some 1)], [(74, some 2)], [(5, none)], [(76, some 4)], [(5, none)], [(78, some 6)], [(5, none)], [(80, some 8)], [(75, some 3), (77, some 5), (79, some 7), (81, some 9)], [(82, some 10)]] [?b33_0, ?b33_1, ?b33_2, ?b33_3, ?b33_4, ?b33_5, ?b33_6, ?b33_7, ?b33_8, ?b33_9, ?b33_10, ?b33_11] hr ?t33 ?o33 ?_
  case o33 =>
   apply oc0; intro A W hx hf
   exact Q01 (a0 := a26) (r0 hf)
   apply oc0; intro A W hx hf
   exact Q01 (a0 := a26) (r0 hf)
   apply oc0; intro A W hx hf
   exact Q0v tu22 (OwnBA.bs (p2 s10 e_w24 hx (q0 ?b33_1 A W 73 hf)))
   apply oc0; intro A W hx hf
   exact Q0o (ec A (.int .i64 20)) (q0 ?b33_2 A W 74 hf) (by omega)
   apply oc0; intro A W hx hf
   exact Q02 4 tu35 (k := 2) rfl Q0m rfl (o2 s5 e_w23 hx (r0 hf)) rfl
   apply oc0; intro A W hx hf
   exact Q0a tu3 rfl (q0 ?b33_4 A W 76 hf) rfl
   apply oc0; intro A W hx hf
   exact Q02 0 tu35 (k := 0) rfl Q0z rfl (o2 s5 e_w23 hx (r0 hf)) rfl
   apply oc0; intro A W hx hf
   exact Q0b 2 tu25 rfl Q0z (q0 ?b33_6 A W 78 hf) rfl
   apply oc0; intro A W hx hf
   exact Q02 2 tu35 (k := 1) rfl Q0z rfl (o2 s5 e_w23 hx (r0 hf)) rfl
   apply oc0; intro A W hx hf
   exact Q0b 4 tu25 rfl Q0z (q0 ?b33_8 A W 80 hf) rfl
   apply oc0; intro A W hx hf
   exact Q1e [(0, (.const (.int .i64 20))), (1, (.tmp 75)), (5, (.const (.bool true))), (6, (.const (.int .i64 64))), (7, (.tmp 77)), (8, (.tmp 79)), (9, (.tmp 81))] [(0, _), (1, _), (5, _), (6, _), (7, _), (8, _), (9, _)] Qqh rfl (PartsC.one (ec A (.int .i64 20)) rfl (PartsC.one (q0 ?b33_3 A W 75 hf) rfl (PartsC.one (ec A (.bool true)) rfl (PartsC.one (ec A (.int .i64 64)) rfl (PartsC.one (q1 ?b33_5 A W 77 hf) rfl (PartsC.agg (q2 ?b33_7 A W 79 hf) (PartsC.agg (q3 ?b33_9 A W 81 hf) (PartsC.nil)))))))) (by simp [tupS, hs16, hd16])
   apply oc0; intro A W hx hf
   exact Q18 Qpq (Qok (Is.conv (q0 ?b33_10 A W 82 hf) (show _ = Qjg (Q28 T ((segL T f load).length : Int)) from by simp [Qjg, Qbu, Q28, Q0l, Q5b, tupS])) (by exact hT9) (by exact hrt) hx.size)
   exact onn
  case t33 => exact inferInstance
  clear hr; intro a34 w34 x hr hd hs
  have z_w_w26 := e_w.size
  have z_w23_w26 := e_w23.size
  have z_w24_w26 := e_w24.size
  have l34_5 := PxS.lt (Q00 e_w23 s5)
  have l34_9 := OwnBA.lt (Q00 e_w23 s9)
  have l34_10 := OwnBA.lt (Q00 e_w24 s10)
  have u72 := mv s9 (fa ?b33_0 a34 w34 72 (hd 0 72 rfl))
  revert s10; revert s9; revert s5; refine kp3 hs rfl ?_; intro s5 s9 s10
  clear s58
  have s72 := u72; clear u72
  have s83 := fa ?b33_11 a34 w34 83 (hd 11 83 rfl)
  obtain ⟨g34_83, q34_83⟩ := OwnB.at s83; clear s83; have n34_83 := OwnBA.lt q34_83
  replace q34_83 := OwnBA.mono q34_83 e_w.size
  have s83 := q34_83; clear q34_83
  replace e_w := e_w.trans x
  replace e_w23 := e_w23.trans x
  replace e_w24 := e_w24.trans x
  replace m27 := m27.tr hs rfl; clear hd hs x
  have l35 := OwnBA.lt (Q00 e_w23 s72)
  have l35_5 := PxS.lt (Q00 e_w23 s5)
  have l35_10 := OwnBA.lt (Q00 e_w24 s10)
  refine Q0u hr (by decide) tu22 Q3u rfl (Q00 e_w23 s72) (OwnBA.bs s83) e_w.size (by first | (simp [Q0d]; done) | (simp [Q0d]; omega) | (simp only [List.length_append, Q0d, hll2, hk40, List.length_cons, List.length_nil]; have := htl2; show _; change (14 + 4 * (Q1v L T.src.six).tags.length + _) * 1 ≤ _ ∧ _; omega) | (have hk9 := Q5q (n := ((segL T f load).length : Int)) hT9; have hfl9 := Q4y (Sa := T.src) (Da := T.dst) hsk; simp only [List.length_append, hll2, hk9, hfl9]; split <;> omega) | (simp only [List.length_append, Q0d, List.length_cons, List.length_nil]; split <;> simp [Q0d] <;> omega)) ?_; clear hr; intro g35 a35 w35 hg35 hc hr hd hs
  have hb := hc.below e_w.size l35.1
  revert s10; revert s5; refine kp2 hs rfl ?_; intro s5 s10
  clear s9 s72 s83
  replace s5 := PxS.other (Q00 e_w23 s5) hc (by omega)
  replace s10 := OwnBA.other (Q00 e_w24 s10) hc (by omega)
  have s84 := hd
  replace e_w := e_w.below (Nat.le_refl _) hb
  clear e_w23
  clear e_w24
  replace m27 := m27.tr hs rfl
  clear hd hs hb hc
  refine Q11 hr (Q03 s84) inferInstance ?_; clear hr; intro a36 w36 x hr hd hs
  revert s10; revert s5; refine kp2 hs rfl ?_; intro s5 s10
  clear s84
  have s9 := hd 9 rfl (by decide)
  replace e_w := e_w.trans x
  have e_w35 := x
  replace m27 := m27.tr hs rfl; clear hd hs x
  refine wpList_nil ?_
  refine et ?_
  refine ⟨g35, hr, m27, e_w, (by first | assumption | omega), (by first | assumption | omega), ?_, ?_, ?_⟩
  · exact (Q00 e_w35 s5)
  · first | exact OwnBA.cast s9 (by unfold ipL; rw [if_pos h6]) | exact OwnBA.cast s9 (by unfold ipL; rw [if_neg (by rw [h6]; decide)])
  · exact (Q00 e_w35 s10)
 intro a27 w27 hI
 clear e_w
 clear e_w23
 clear e_w24
 clear hr; obtain ⟨ε, hr, hs, e_w, ne10, ne5, u5, u9, u10⟩ := hI
 clear s5 s9 s10 s58
 have s5 := u5; clear u5
 have s9 := u9; clear u9
 have s10 := u10; clear u10
 clear hs
 refine sq ?_
 refine Q06 (l := [_, _, _, _, _, _, _, _, _]) (rest := [_, _]) 95 [[(9, none)], [(5, none)], [(86, some 1)], [(5, none)], [(88, some 3)], [(5, none)], [(90, some 5)], [(10, none)], [(87, some 2), (89, some 4), (91, some 6), (92, some 7)]] [?b37_0, ?b37_1, ?b37_2, ?b37_3, ?b37_4, ?b37_5, ?b37_6, ?b37_7, ?b37_8] hr ?t37 ?o37 ?_
 case o37 =>
  apply oc0; intro A W hx hf
  exact Q01 (a0 := a27) (r0 hf)
  apply oc0; intro A W hx hf
  exact Q02 0 tu35 (k := 0) rfl Q0z rfl (o1 s5 hx (r0 hf)) rfl
  apply oc0; intro A W hx hf
  exact Q0b 2 tu25 rfl Q0z (q0 ?b37_1 A W 86 hf) rfl
  apply oc0; intro A W hx hf
  exact Q02 2 tu35 (k := 1) rfl Q0z rfl (o1 s5 hx (r0 hf)) rfl
  apply oc0; intro A W hx hf
  exact Q0b 4 tu25 rfl Q0z (q0 ?b37_3 A W 88 hf) rfl
  apply oc0; intro A W hx hf
  exact Q02 4 tu35 (k := 2) rfl Q0m rfl (o1 s5 hx (r0 hf)) rfl
  apply oc0; intro A W hx hf
  exact Q0a tu3 rfl (q0 ?b37_5 A W 90 hf) rfl
  apply oc0; intro A W hx hf
  exact Q01 (a0 := a27) (r0 hf)
  apply oc0; intro A W hx hf
  exact Q3p Qpr (Qkj (Is.conv (q0 ?b37_2 A W 87 hf) (show _ = AdrV T.src from (Q1o T.src))) (Is.conv (q1 ?b37_4 A W 89 hf) (show _ = AdrV T.dst from (Q1o T.dst))) (q2 ?b37_6 A W 91 hf) (OwnBA.bs (p1 s10 hx (q3 ?b37_7 A W 92 hf))) (by exact hT9.1) (by exact hT9.2) (by exact hsk) (by omega) hx.size)
  exact onn
 case t37 => exact inferInstance
 clear hr; intro a38 w38 x hr hd hs
 have z_w_w27 := e_w.size
 have l38_5 := PxS.lt s5
 have l38_9 := OwnBA.lt s9
 have l38_10 := OwnBA.lt s10
 have u85 := mv s9 (fa ?b37_0 a38 w38 85 (hd 0 85 rfl))
 clear s5 s9 s10
 have s85 := u85; clear u85
 have s93 := fa ?b37_8 a38 w38 93 (hd 8 93 rfl)
 obtain ⟨g38_93, q38_93⟩ := OwnB.at s93; clear s93; have n38_93 := OwnBA.lt q38_93
 replace q38_93 := OwnBA.mono q38_93 e_w.size
 have s93 := q38_93; clear q38_93
 replace e_w := e_w.trans x
 have e_w27 := x; clear hd hs x
 have l39 := OwnBA.lt (Q00 e_w27 s85)
 refine Q0u hr (by decide) tu22 Q3u rfl (Q00 e_w27 s85) (OwnBA.bs s93) e_w.size (by first | (simp [Q0d]; done) | (simp [Q0d]; omega) | (simp only [List.length_append, Q0d, hll2, hk40, List.length_cons, List.length_nil]; have := htl2; show _; change (14 + 4 * (Q1v L T.src.six).tags.length + _) * 1 ≤ _ ∧ _; omega) | (have hk9 := Q5q (n := ((segL T f load).length : Int)) hT9; have hfl9 := Q4y (Sa := T.src) (Da := T.dst) hsk; simp only [List.length_append, hll2, hk9, hfl9]; split <;> omega) | (simp only [List.length_append, Q0d, List.length_cons, List.length_nil]; split <;> simp [Q0d] <;> omega)) ?_; clear hr; intro g39 a39 w39 hg39 hc hr hd hs
 have hb := hc.below e_w.size l39.1
 clear s85 s93
 have s94 := hd
 replace e_w := e_w.below (Nat.le_refl _) hb
 clear e_w27
 clear hd hs hb hc
 refine Q11 hr (Q03 s94) inferInstance ?_; clear hr; intro a40 w40 x hr hd hs
 clear s94
 have s8 := hd 8 rfl (by decide)
 replace e_w := e_w.trans x; clear hd hs x
 refine wpList_nil ?_
 refine et ?_
 refine wp_ret ?_
 refine Q0r Try.results18 hr e_w ?_
 exact OwnB.cast (OwnB.mono s8.own hB) (by unfold Q1h; rfl)

end Go.Proofs.Ytlmdboaghojgiaa
