import Derived.Test.YtlmdboaghojgiaaC06
import Derived.Test.YtlmdboaghojgiaaW
namespace Go.Proofs.Ytlmdboaghojgiaa
open Go.RowKit
set_option linter.unusedVariables false
set_option linter.unusedSimpArgs false
set_option maxRecDepth 4000
def Qa1 : List Tmp := [7, 18, 19, 20, 21, 22, 23, 24, 25]
def Qa2 : List Tmp := [8, 26, 27, 28, 29, 30, 31, 32, 33]
def Qa3 : List Tmp := [0, 11, 38, 39, 40, 41, 42, 43, 44, 45, 46, 47, 48, 49, 50, 51, 52, 53]
theorem Q89 {x0 x1 x2 : Value} {w : World} {c : Int} {f t : List UInt8} (h0 : (Is (.int .i64 c)) x0 w) (h1 : (Bs f) x1 w) (h2 : (Bs t) x2 w) (hc : 0 ≤ c ∧ c ≤ 65535) (hf : f.length ≤ 1000000) (ht : t.length ≤ 1000000) :
    Calls Try.prog 22 #[x0, x1, x2] w (Ret (Is (.int .i64 (Q3t c f t))) w) := by
 refine enter Try.func22 rfl Try.ntmps22 (k := 3) rfl (by decide) (fun a0 hr hargs => ?_)
 have s0 := sarg h0 (hargs 0 (by decide))
 have s1 := sarg h1 (hargs 1 (by decide))
 have s2 := sarg h2 (hargs 2 (by decide))
 clear hargs
 refine sq ?_
 refine Q04 55 [[]] [?b1_0] Q07 hr ?t1 ?o1 ?_
 case o1 =>
  apply oc0; intro A W hx hf
  exact Q06
  exact onn
 case t1 => exact inferInstance
 clear hr; intro a2 w2 x hr hd hs
 revert s2; revert s1; revert s0; refine kp3 hs rfl ?_; intro s0 s1 s2
 have e_w := x; clear hd hs x
 refine es ?_
 refine Q05 (l := [_, _]) (rest := [_, _]) 55 [[], [(1, none)]] [?b3_0, ?b3_1] hr ?t3 ?o3 ?_
 case o3 =>
  apply oc0; intro A W hx hf
  exact Q2d [] [] tu22 Q0i Q2v rfl rfl (by decide) hx.size (PartsOk.nil)
  apply oc0; intro A W hx hf
  exact Q01 (a0 := a2) (r0 hf)
  exact onn
 case t3 => exact inferInstance
 clear hr; intro a4 w4 x hr hd hs
 have z_w_w2 := e_w.size
 have u13 := mv s1 (fa ?b3_1 a4 w4 13 (hd 1 13 rfl))
 revert s2; revert s0; refine kp2 hs rfl ?_; intro s0 s2
 clear s1
 have s13 := u13; clear u13
 have s12 := fa ?b3_0 a4 w4 12 (hd 0 12 rfl)
 obtain ⟨g4_12, q4_12⟩ := OwnB.at s12; clear s12; have n4_12 := OwnBA.lt q4_12
 replace q4_12 := OwnBA.mono q4_12 e_w.size
 have s12 := q4_12; clear q4_12
 replace e_w := e_w.trans x; clear hd hs x
 have l5 := OwnBA.lt s12
 refine Q0s hr (by decide) tu22 Q2q rfl s12 (Q00 e_w s13) e_w.size (by simp; omega) ?_; clear hr; intro g5 a5 w5 hg5 hc hr hd hs
 have hb := hc.below e_w.size l5.1
 revert s2; revert s0; refine kp2 hs rfl ?_; intro s0 s2
 clear s13 s12
 have s14 := hd
 replace e_w := e_w.below (Nat.le_refl _) hb
 clear hd hs hb hc
 refine Q10 hr (Q03 s14) inferInstance ?_; clear hr; intro a6 w6 x hr hd hs
 revert s2; revert s0; refine kp2 hs rfl ?_; intro s0 s2
 clear s14
 have s7 := hd 7 rfl (by decide)
 replace e_w := e_w.trans x; clear hd hs x
 refine wpList_nil ?_
 refine es ?_
 refine Q05 (l := [_, _]) (rest := [_, _]) 55 [[], [(2, none)]] [?b7_0, ?b7_1] hr ?t7 ?o7 ?_
 case o7 =>
  apply oc0; intro A W hx hf
  exact Q2d [] [] tu22 Q0i Q2v rfl rfl (by decide) hx.size (PartsOk.nil)
  apply oc0; intro A W hx hf
  exact Q01 (a0 := a6) (r0 hf)
  exact onn
 case t7 => exact inferInstance
 clear hr; intro a8 w8 x hr hd hs
 have z_w_w6 := e_w.size
 have l8_7 := OwnBA.lt s7
 have u16 := mv s2 (fa ?b7_1 a8 w8 16 (hd 1 16 rfl))
 revert s7; revert s0; refine kp2 hs rfl ?_; intro s0 s7
 clear s2
 have s16 := u16; clear u16
 have s15 := fa ?b7_0 a8 w8 15 (hd 0 15 rfl)
 obtain ⟨g8_15, q8_15⟩ := OwnB.at s15; clear s15; have n8_15 := OwnBA.lt q8_15
 replace q8_15 := OwnBA.mono q8_15 e_w.size
 have s15 := q8_15; clear q8_15
 replace e_w := e_w.trans x
 have e_w6 := x; clear hd hs x
 have l9 := OwnBA.lt s15
 have l9_7 := OwnBA.lt (Q00 e_w6 s7)
 refine Q0s hr (by decide) tu22 Q2q rfl s15 (Q00 e_w s16) e_w.size (by simp; omega) ?_; clear hr; intro g9 a9 w9 hg9 hc hr hd hs
 have hb := hc.below e_w.size l9.1
 revert s7; revert s0; refine kp2 hs rfl ?_; intro s0 s7
 clear s16 s15
 replace s7 := OwnBA.other (Q00 e_w6 s7) hc (by omega)
 have s17 := hd
 replace e_w := e_w.below (Nat.le_refl _) hb
 clear e_w6
 clear hd hs hb hc
 refine Q10 hr (Q03 s17) inferInstance ?_; clear hr; intro a10 w10 x hr hd hs
 revert s7; revert s0; refine kp2 hs rfl ?_; intro s0 s7
 clear s17
 have s8 := hd 8 rfl (by decide)
 replace e_w := e_w.trans x
 have e_w9 := x; clear hd hs x
 refine wpList_nil ?_
 refine es ?_
 refine wp_block ?_
 refine Q11 (fun n A W => ∃ (j β γ : Nat), n = max f.length t.length - (f.length + j) ∧ Fr 55 A ∧ Same Qa1 a10 A ∧ Ext w W ∧ (f.length + j ≤ max f.length t.length) ∧ (β = 0 ∨ γ = 0 ∨ β ≠ γ) ∧ (OwnBA β w.heap.size 5 (f ++ List.replicate j 0)) (A.eval (.tmp 7)) W ∧ (OwnBA γ w.heap.size 5 t) (A.eval (.tmp 8)) W) ?start11 ?_
 case start11 =>
  refine ⟨_, 0, g5, g9, rfl, hr, Same.rfl, e_w, (by first | assumption | omega), (by first | assumption | omega), ?_, ?_⟩
  · exact OwnBA.cast (Q00 e_w9 s7) (by simp)
  · exact OwnBA.cast s8 (by simp)
 intro n11 a11 w11 hI
 clear e_w
 clear e_w9
 clear hr; obtain ⟨j, β, γ, hn11, hr, hs, e_w, hj, hne, u7, u8⟩ := hI
 revert s0; refine kp1 hs rfl ?_; intro s0
 clear s7 s8
 have s7 := u7; clear u7
 have s8 := u8; clear u8
 have m11 := hs; clear hs
 refine sq ?_
 refine sq ?_
 refine Q04 55 [[(7, none)], [(18, some 0)], [(8, none)], [(20, some 2)], [(19, some 1), (21, some 3)]] [?b12_0, ?b12_1, ?b12_2, ?b12_3, ?b12_4] Q07 hr ?t12 ?o12 ?_
 case o12 =>
  apply oc0; intro A W hx hf
  exact Q01 (a0 := a11) (r0 hf)
  apply oc0; intro A W hx hf
  exact Q0u tu22 (OwnBA.bs (p1 s7 hx (q0 ?b12_0 A W 18 hf)))
  apply oc0; intro A W hx hf
  exact Q01 (a0 := a11) (r0 hf)
  apply oc0; intro A W hx hf
  exact Q0u tu22 (OwnBA.bs (p1 s8 hx (q0 ?b12_2 A W 20 hf)))
  apply oc0; intro A W hx hf
  exact Q1e (q0 ?b12_1 A W 19 hf) (q1 ?b12_3 A W 21 hf)
  exact onn
 case t12 => exact inferInstance
 clear hr; intro a13 w13 x hr hd hs
 revert s8; revert s7; revert s0; refine kp3 hs rfl ?_; intro s0 s7 s8
 have s22 := fa ?b12_4 a13 w13 22 (hd 4 22 rfl)
 replace e_w := e_w.trans x
 have e_w11 := x
 replace m11 := m11.tr hs rfl; clear hd hs x
 refine et ?_
 refine wp_cond_split (show _ = _ from s22) (fun hlt => ?_) (fun hlt => ?_)
 ·
  have hlt : f.length + j < t.length := by simp at hlt; omega
  refine wp_skip ?_
  refine et ?_
  refine wp_block ?_
  refine Q05 (l := [_, _]) (rest := [_, _]) 55 [[(7, none)], []] [?b15_0, ?b15_1] hr ?t15 ?o15 ?_
  case o15 =>
   apply oc0; intro A W hx hf
   exact Q01 (a0 := a13) (r0 hf)
   apply oc0; intro A W hx hf
   exact Q1m [(.const (.int .u8 0))] [_] tu22 Q0i Q2v rfl rfl (by decide) (PartsOk.cons (show ByteIs 0 _ _ from rfl) (PartsOk.nil))
   exact onn
  case t15 => exact inferInstance
  clear hr; intro a16 w16 x hr hd hs
  have u23 := mv s7 (fa ?b15_0 a16 w16 23 (hd 0 23 rfl))
  revert s8; revert s7; revert s0; refine kp3 hs rfl ?_; intro s0 s7 s8
  clear s22
  have s23 := u23; clear u23
  have s24 := fa ?b15_1 a16 w16 24 (hd 1 24 rfl)
  replace e_w := e_w.trans x
  replace e_w11 := e_w11.trans x
  replace m11 := m11.tr hs rfl; clear hd hs x
  have l17 := OwnBA.lt (Q00 e_w11 s23)
  have l17_8 := OwnBA.lt (Q00 e_w11 s8)
  refine Q0s hr (by decide) tu22 Q2q rfl (Q00 e_w11 s23) s24 e_w.size (by simp; omega) ?_; clear hr; intro g17 a17 w17 hg17 hc hr hd hs
  have hb := hc.below e_w.size l17.1
  revert s8; revert s0; refine kp2 hs rfl ?_; intro s0 s8
  clear s7 s23 s24
  replace s8 := OwnBA.other (Q00 e_w11 s8) hc (by omega)
  have s25 := hd
  replace e_w := e_w.below (Nat.le_refl _) hb
  clear e_w11
  replace m11 := m11.tr hs rfl
  clear hd hs hb hc
  refine Q10 hr (Q03 s25) inferInstance ?_; clear hr; intro a18 w18 x hr hd hs
  revert s8; revert s0; refine kp2 hs rfl ?_; intro s0 s8
  clear s25
  have s7 := hd 7 rfl (by decide)
  replace e_w := e_w.trans x
  have e_w17 := x
  replace m11 := m11.tr hs rfl; clear hd hs x
  refine wpList_nil ?_
  refine Q0w ?_
  refine et ?_
  refine ⟨(fun (j β γ : Nat) => max f.length t.length - (f.length + j)) (j + 1) (0) (0), ?_, ?_⟩
  · (try dsimp only); omega
  refine ⟨j + 1, g17, γ, rfl, hr, m11, e_w, (by first | assumption | omega), (by first | assumption | omega), ?_, ?_⟩
  · exact OwnBA.cast s7 (by rw [List.append_assoc, List.replicate_succ'])
  · exact (Q00 e_w17 s8)
 have hlt : t.length ≤ f.length + j := by simp at hlt; omega
 refine wp_exit ?_
 refine Q0g ?_
 refine Q0g ?_
 refine Q1b ?_
 refine es ?_
 refine wp_block ?_
 refine Q11 (fun n A W => ∃ (k β γ : Nat), n = max f.length t.length - (t.length + k) ∧ Fr 55 A ∧ Same Qa2 a13 A ∧ Ext w W ∧ (t.length + k ≤ max f.length t.length) ∧ (β = 0 ∨ γ = 0 ∨ β ≠ γ) ∧ (OwnBA β w.heap.size 5 (f ++ List.replicate j 0)) (A.eval (.tmp 7)) W ∧ (OwnBA γ w.heap.size 5 (t ++ List.replicate k 0)) (A.eval (.tmp 8)) W) ?start19 ?_
 case start19 =>
  refine ⟨_, 0, β, γ, rfl, hr, Same.rfl, e_w, (by first | assumption | omega), (by first | assumption | omega), ?_, ?_⟩
  · exact (Q00 e_w11 s7)
  · exact OwnBA.cast (Q00 e_w11 s8) (by simp)
 intro n19 a19 w19 hI
 clear e_w
 clear e_w11
 clear hr; obtain ⟨k, β, γ, hn19, hr, hs, e_w, hk, hne, u7, u8⟩ := hI
 revert s0; refine kp1 hs rfl ?_; intro s0
 clear s7 s8 s22
 have s7 := u7; clear u7
 have s8 := u8; clear u8
 have m19 := hs; clear hs
 refine sq ?_
 refine sq ?_
 refine Q04 55 [[(8, none)], [(26, some 0)], [(7, none)], [(28, some 2)], [(27, some 1), (29, some 3)]] [?b20_0, ?b20_1, ?b20_2, ?b20_3, ?b20_4] Q07 hr ?t20 ?o20 ?_
 case o20 =>
  apply oc0; intro A W hx hf
  exact Q01 (a0 := a19) (r0 hf)
  apply oc0; intro A W hx hf
  exact Q0u tu22 (OwnBA.bs (p1 s8 hx (q0 ?b20_0 A W 26 hf)))
  apply oc0; intro A W hx hf
  exact Q01 (a0 := a19) (r0 hf)
  apply oc0; intro A W hx hf
  exact Q0u tu22 (OwnBA.bs (p1 s7 hx (q0 ?b20_2 A W 28 hf)))
  apply oc0; intro A W hx hf
  exact Q1e (q0 ?b20_1 A W 27 hf) (q1 ?b20_3 A W 29 hf)
  exact onn
 case t20 => exact inferInstance
 clear hr; intro a21 w21 x hr hd hs
 revert s8; revert s7; revert s0; refine kp3 hs rfl ?_; intro s0 s7 s8
 have s30 := fa ?b20_4 a21 w21 30 (hd 4 30 rfl)
 replace e_w := e_w.trans x
 have e_w19 := x
 replace m19 := m19.tr hs rfl; clear hd hs x
 refine et ?_
 refine wp_cond_split (show _ = _ from s30) (fun hlt2 => ?_) (fun hlt2 => ?_)
 ·
  have hlt2 : t.length + k < f.length + j := by simp at hlt2; omega
  refine wp_skip ?_
  refine et ?_
  refine wp_block ?_
  refine Q05 (l := [_, _]) (rest := [_, _]) 55 [[(8, none)], []] [?b23_0, ?b23_1] hr ?t23 ?o23 ?_
  case o23 =>
   apply oc0; intro A W hx hf
   exact Q01 (a0 := a21) (r0 hf)
   apply oc0; intro A W hx hf
   exact Q1m [(.const (.int .u8 0))] [_] tu22 Q0i Q2v rfl rfl (by decide) (PartsOk.cons (show ByteIs 0 _ _ from rfl) (PartsOk.nil))
   exact onn
  case t23 => exact inferInstance
  clear hr; intro a24 w24 x hr hd hs
  have u31 := mv s8 (fa ?b23_0 a24 w24 31 (hd 0 31 rfl))
  revert s8; revert s7; revert s0; refine kp3 hs rfl ?_; intro s0 s7 s8
  clear s30
  have s31 := u31; clear u31
  have s32 := fa ?b23_1 a24 w24 32 (hd 1 32 rfl)
  replace e_w := e_w.trans x
  replace e_w19 := e_w19.trans x
  replace m19 := m19.tr hs rfl; clear hd hs x
  have l25 := OwnBA.lt (Q00 e_w19 s31)
  have l25_7 := OwnBA.lt (Q00 e_w19 s7)
  refine Q0s hr (by decide) tu22 Q2q rfl (Q00 e_w19 s31) s32 e_w.size (by simp; omega) ?_; clear hr; intro g25 a25 w25 hg25 hc hr hd hs
  have hb := hc.below e_w.size l25.1
  revert s7; revert s0; refine kp2 hs rfl ?_; intro s0 s7
  clear s8 s31 s32
  replace s7 := OwnBA.other (Q00 e_w19 s7) hc (by omega)
  have s33 := hd
  replace e_w := e_w.below (Nat.le_refl _) hb
  clear e_w19
  replace m19 := m19.tr hs rfl
  clear hd hs hb hc
  refine Q10 hr (Q03 s33) inferInstance ?_; clear hr; intro a26 w26 x hr hd hs
  revert s7; revert s0; refine kp2 hs rfl ?_; intro s0 s7
  clear s33
  have s8 := hd 8 rfl (by decide)
  replace e_w := e_w.trans x
  have e_w25 := x
  replace m19 := m19.tr hs rfl; clear hd hs x
  refine wpList_nil ?_
  refine Q0w ?_
  refine et ?_
  refine ⟨(fun (k β γ : Nat) => max f.length t.length - (t.length + k)) (k + 1) (0) (0), ?_, ?_⟩
  · (try dsimp only); omega
  refine ⟨k + 1, β, g25, rfl, hr, m19, e_w, (by first | assumption | omega), (by first | assumption | omega), ?_, ?_⟩
  · exact (Q00 e_w25 s7)
  · exact OwnBA.cast s8 (by rw [List.append_assoc, List.replicate_succ'])
 have hlt2 : f.length + j ≤ t.length + k := by simp at hlt2; omega
 refine wp_exit ?_
 refine Q0g ?_
 refine Q0g ?_
 refine Q1b ?_
 refine es ?_
 have hwa := Q4t (f ++ List.replicate j 0)
 have hwb := Q4t (t ++ List.replicate k 0)
 simp only [List.length_append, List.length_replicate] at hwa hwb
 refine Q04 55 [[(7, none)], [(34, some 0)], [(35, some 1)]] [?b27_0, ?b27_1, ?b27_1] Q07 hr ?t27 ?o27 ?_
 case o27 =>
  apply oc0; intro A W hx hf
  exact Q01 (a0 := a21) (r0 hf)
  apply oc0; intro A W hx hf
  exact Q1d Qi4 (Qbc (OwnBA.bs (p2 s7 e_w19 hx (q0 ?b27_0 A W 34 hf))) (by simp; omega))
  apply oc0; intro A W hx hf
  exact Q03 (q0 ?b27_1 A W 35 hf)
  exact onn
 case t27 => exact inferInstance
 clear hr; intro a28 w28 x hr hd hs
 revert s8; revert s0; refine kp2 hs rfl ?_; intro s0 s8
 clear s7 s30
 have s9 := fa ?b27_1 a28 w28 9 (hd 2 9 rfl)
 replace e_w := e_w.trans x
 replace e_w19 := e_w19.trans x; clear hd hs x
 refine es ?_
 refine Q04 55 [[(8, none)], [(36, some 0)], [(37, some 1)]] [?b29_0, ?b29_1, ?b29_1] Q07 hr ?t29 ?o29 ?_
 case o29 =>
  apply oc0; intro A W hx hf
  exact Q01 (a0 := a28) (r0 hf)
  apply oc0; intro A W hx hf
  exact Q1d Qi4 (Qbc (OwnBA.bs (p2 s8 e_w19 hx (q0 ?b29_0 A W 36 hf))) (by simp; omega))
  apply oc0; intro A W hx hf
  exact Q03 (q0 ?b29_1 A W 37 hf)
  exact onn
 case t29 => exact inferInstance
 clear hr; intro a30 w30 x hr hd hs
 revert s9; revert s0; refine kp2 hs rfl ?_; intro s0 s9
 clear s8
 have s10 := fa ?b29_1 a30 w30 10 (hd 2 10 rfl)
 replace e_w := e_w.trans x
 clear e_w19
 have e_w28 := x; clear hd hs x
 refine es ?_
 refine sq ?_
 refine Q04 55 [[]] [?b31_0] Q07 hr ?t31 ?o31 ?_
 case o31 =>
  apply oc0; intro A W hx hf
  exact Q06
  exact onn
 case t31 => exact inferInstance
 clear hr; intro a32 w32 x hr hd hs
 revert s10; revert s9; revert s0; refine kp3 hs rfl ?_; intro s0 s9 s10
 have s11 := fa ?b31_0 a32 w32 11 (hd 0 11 rfl)
 replace e_w := e_w.trans x
 replace e_w28 := e_w28.trans x
 have e_w30 := x; clear hd hs x
 refine et ?_
 refine wp_block ?_
 refine Q11 (fun n A W => ∃ (q : Nat), n = (Q41 (f ++ List.replicate j 0)).length - q ∧ Fr 55 A ∧ Same Qa3 a32 A ∧ Ext w W ∧ Ext w28 W ∧ Ext w30 W ∧ (q ≤ (Q41 (f ++ List.replicate j 0)).length) ∧ (Is (.int .i64 (chgd c f t q))) (A.eval (.tmp 0)) W ∧ (Is (.int .i64 (q : Int))) (A.eval (.tmp 11)) W) ?start33 ?_
 case start33 =>
  refine ⟨_, 0, rfl, hr, Same.rfl, e_w, e_w28, e_w30, (by first | assumption | omega), ?_, ?_⟩
  · exact (Q00 e_w s0)
  · exact s11
 intro n33 a33 w33 hI
 clear e_w
 clear e_w28
 clear e_w30
 clear hr; obtain ⟨q, hn33, hr, hs, e_w, e_w28, e_w30, hq, u0, u11⟩ := hI
 revert s10; revert s9; refine kp2 hs rfl ?_; intro s9 s10
 clear s0 s11
 have s0 := u0; clear u0
 have s11 := u11; clear u11
 have m33 := hs; clear hs
 refine sq ?_
 refine sq ?_
 refine Q04 55 [[(11, none)], [(9, none)], [(39, some 1)], [(38, some 0), (40, some 2)]] [?b34_0, ?b34_1, ?b34_2, ?b34_3] Q07 hr ?t34 ?o34 ?_
 case o34 =>
  apply oc0; intro A W hx hf
  exact Q01 (a0 := a33) (r0 hf)
  apply oc0; intro A W hx hf
  exact Q01 (a0 := a33) (r0 hf)
  apply oc0; intro A W hx hf
  exact Qbt tu89 (p2 s9 e_w28 hx (q0 ?b34_1 A W 39 hf))
  apply oc0; intro A W hx hf
  exact Q1e (p1 s11 hx (q0 ?b34_0 A W 38 hf)) (q1 ?b34_2 A W 40 hf)
  exact onn
 case t34 => exact inferInstance
 clear hr; intro a35 w35 x hr hd hs
 revert s11; revert s0; revert s10; revert s9; refine kp4 hs rfl ?_; intro s9 s10 s0 s11
 have s41 := fa ?b34_3 a35 w35 41 (hd 3 41 rfl)
 replace e_w := e_w.trans x
 replace e_w28 := e_w28.trans x
 replace e_w30 := e_w30.trans x
 have e_w33 := x
 replace m33 := m33.tr hs rfl; clear hd hs x
 refine et ?_
 refine wp_cond_split (show _ = _ from s41) (fun hqlt => ?_) (fun hqlt => ?_)
 ·
  have hqlt : q < (Q41 (f ++ List.replicate j 0)).length := by simp at hqlt; omega
  have hqlt2 : q < (Q41 (t ++ List.replicate k 0)).length := by omega
  refine wp_skip ?_
  refine es ?_
  refine wp_block ?_
  have hcb := Q66 hc f t q
  refine Q04 55 [[(0, none)], [(9, none)], [(11, none)], [(45, some 1), (46, some 2)], [(47, some 3)], [(10, none)], [(11, none)], [(49, some 5), (50, some 6)], [(51, some 7)], [(44, some 0), (48, some 4), (52, some 8)], [(53, some 9)]] [?b37_0, ?b37_1, ?b37_2, ?b37_3, ?b37_4, ?b37_5, ?b37_6, ?b37_7, ?b37_8, ?b37_9, ?b37_9] Q07 hr ?t37 ?o37 ?_
  case o37 =>
   apply oc0; intro A W hx hf
   exact Q01 (a0 := a35) (r0 hf)
   apply oc0; intro A W hx hf
   exact Q01 (a0 := a35) (r0 hf)
   apply oc0; intro A W hx hf
   exact Q01 (a0 := a35) (r0 hf)
   apply oc0; intro A W hx hf
   exact Q6s (_) tu89 Q0k (p2 s9 e_w28 hx (q0 ?b37_1 A W 45 hf)) (p2 s11 e_w33 hx (q1 ?b37_2 A W 46 hf)) (by first | omega | decide | (simp; done) | (simp; omega))
   apply oc0; intro A W hx hf
   exact Q0q tu3 rfl (q0 ?b37_3 A W 47 hf)
   apply oc0; intro A W hx hf
   exact Q01 (a0 := a35) (r0 hf)
   apply oc0; intro A W hx hf
   exact Q01 (a0 := a35) (r0 hf)
   apply oc0; intro A W hx hf
   exact Q6s (_) tu89 Q0k (p2 s10 e_w30 hx (q0 ?b37_5 A W 49 hf)) (p2 s11 e_w33 hx (q1 ?b37_6 A W 50 hf)) (by first | omega | decide | (simp; done) | (simp; omega))
   apply oc0; intro A W hx hf
   exact Q0q tu3 rfl (q0 ?b37_7 A W 51 hf)
   apply oc0; intro A W hx hf
   exact Q26 Qob (Qja (p2 s0 e_w33 hx (q0 ?b37_0 A W 44 hf)) (q1 ?b37_4 A W 48 hf) (q2 ?b37_8 A W 52 hf) (by exact hcb) (by rw [Q4u _ q hqlt]; exact Q1a _ _) (by rw [Q4u _ q hqlt2]; exact Q1a _ _))
   apply oc0; intro A W hx hf
   exact Q03 (q0 ?b37_9 A W 53 hf)
   exact onn
  case t37 => exact inferInstance
  clear hr; intro a38 w38 x hr hd hs
  revert s11; revert s10; revert s9; refine kp3 hs rfl ?_; intro s9 s10 s11
  clear s0 s41
  have s0 := fa ?b37_9 a38 w38 0 (hd 10 0 rfl)
  replace e_w := e_w.trans x
  replace e_w28 := e_w28.trans x
  replace e_w30 := e_w30.trans x
  replace e_w33 := e_w33.trans x
  replace m33 := m33.tr hs rfl; clear hd hs x
  refine Q0w ?_
  refine et ?_
  refine Q04 55 [[(11, none)], [(42, some 0)], [(43, some 1)]] [?b39_0, ?b39_1, ?b39_1] Q07 hr ?t39 ?o39 ?_
  case o39 =>
   apply oc0; intro A W hx hf
   exact Q01 (a0 := a38) (r0 hf)
   apply oc0; intro A W hx hf
   exact Q0h (p2 s11 e_w33 hx (q0 ?b39_0 A W 42 hf)) (ec A (.int .i64 1)) (by omega)
   apply oc0; intro A W hx hf
   exact Q03 (q0 ?b39_1 A W 43 hf)
   exact onn
  case t39 => exact inferInstance
  clear hr; intro a40 w40 x hr hd hs
  revert s0; revert s10; revert s9; refine kp3 hs rfl ?_; intro s9 s10 s0
  clear s11
  have s11 := fa ?b39_1 a40 w40 11 (hd 2 11 rfl)
  replace e_w := e_w.trans x
  replace e_w28 := e_w28.trans x
  replace e_w30 := e_w30.trans x
  clear e_w33
  have e_w38 := x
  replace m33 := m33.tr hs rfl; clear hd hs x
  refine et ?_
  refine ⟨(fun (q : Nat) => (Q41 (f ++ List.replicate j 0)).length - q) (q + 1), ?_, ?_⟩
  · (try dsimp only); omega
  refine ⟨q + 1, rfl, hr, m33, e_w, e_w28, e_w30, (by first | assumption | omega), ?_, ?_⟩
  · exact Is.int (Q00 e_w38 s0) (by rw [Q4u _ q hqlt, Q4u _ q hqlt2, Qak, Qak]; rfl)
  · exact s11
 have hqe : q = (Q41 (f ++ List.replicate j 0)).length := by simp at hqlt; omega
 refine wp_exit ?_
 refine Q0g ?_
 refine Q0g ?_
 refine Q1b ?_
 refine es ?_
 refine Q04 55 [[(0, none)], [(54, some 0)]] [?b41_0, ?b41_0] Q07 hr ?t41 ?o41 ?_
 case o41 =>
  apply oc0; intro A W hx hf
  exact Q01 (a0 := a35) (r0 hf)
  apply oc0; intro A W hx hf
  exact Q03 (q0 ?b41_0 A W 54 hf)
  exact onn
 case t41 => exact inferInstance
 clear hr; intro a42 w42 x hr hd hs
 have u6 := mv s0 (fa ?b41_0 a42 w42 6 (hd 1 6 rfl))
 clear s9 s10 s0 s11 s41
 have s6 := u6; clear u6
 replace e_w := e_w.trans x
 clear e_w28
 clear e_w30
 replace e_w33 := e_w33.trans x; clear hd hs x
 refine et ?_
 refine wp_ret ?_
 refine Q14 Try.results22 hr e_w ?_
 exact Is.int (Q00 e_w33 s6) (by unfold Q3t; congr 1; omega)

end Go.Proofs.Ytlmdboaghojgiaa
