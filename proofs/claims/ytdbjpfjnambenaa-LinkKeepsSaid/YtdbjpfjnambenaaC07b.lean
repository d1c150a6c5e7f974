import Derived.Test.YtdbjpfjnambenaaC07a
namespace Go.Proofs.Ytdbjpfjnambenaa
open Go.RowKit
set_option linter.unusedVariables false
set_option maxRecDepth 4000
def D_c_lRead_0 : List Tmp := [3, 22, 23, 24, 25, 26, 27, 28, 29, 30, 31, 32, 33, 34, 35, 36, 37, 38, 39, 40, 41, 42, 43, 44, 45, 46, 47, 48, 49, 50, 51, 52, 53, 54, 55, 56, 57, 58, 59, 60]
set_option maxHeartbeats 1000000 in
theorem c_lRead {x0 : Value} {w : World} {l : List UInt8} {B : Nat} (h0 : (Bs l) x0 w) (hB : B ≤ w.heap.size) :
    Calls Try.prog 10 #[x0] w (Ret (Tup2 (LinkO B 45 (linkRead l).1) (Is (.int .i64 (linkRead l).2))) w) := by
 have hlen := Bs.len_le h0
 refine enter Try.func10 rfl Try.ntmps10 (k := 1) rfl (by decide) (fun a0 hr hargs => ?_)
 have s0 := sarg h0 (hargs 0 (by decide))
 clear hargs
 refine wp_seq ?_
 refine wp_reg 62 [[], []] [?b1_0, ?b1_1] mixed (by kernel_rfl) (by kernel_rfl) hr ?t1 ?o1 ?_
 case o1 =>
  refine oc0 (fun A W hx hf => ?_) ?_
  exact ok_allocS [(lnkS link0 (.slice none 0 0)).flatten] [15] zerov27 (by rfl) (by rfl) hx.size
  refine oc0 (fun A W hx hf => ?_) ?_
  exact ok_assignc
  exact OpsOk.nil
 case t1 => exact inferInstance
 clear hr; intro a2 w2 x hr hd hs
 revert s0; refine kp1 hs rfl ?_; intro s0
 have s2 := fa ?b1_0 a2 w2 2 (hd 0 2 rfl)
 obtain ⟨g2_2, q2_2⟩ := PxN.at s2; clear s2; have n2_2 := PxS.lt q2_2
 have s2 := q2_2; clear q2_2
 have e_w := x
 clear hd hs x
 refine exit_then ?_
 refine wp_seq ?_
 refine wp_seq ?_
 refine wp_reg 62 [[(0, none)], [(5, some 0)], [(6, some 1)]] [?b3_0, ?b3_1, ?b3_2] mixed (by kernel_rfl) (by kernel_rfl) hr ?t3 ?o3 ?_
 case o3 =>
  refine oc0 (fun A W hx hf => ?_) ?_
  exact ok_movE (a0 := a2) (r0 hf)
  refine oc0 (fun A W hx hf => ?_) ?_
  exact ok_len_bs Try.underlying22 (p2 s0 e_w hx (q0 ?b3_0 A W 5 hf))
  refine oc0 (fun A W hx hf => ?_) ?_
  exact ok_lss (q0 ?b3_1 A W 6 hf) (ec A (.int .i64 14))
  exact OpsOk.nil
 case t3 => exact inferInstance
 clear hr; intro a4 w4 x hr hd hs
 revert s2; revert s0; refine kp2 hs rfl ?_; intro s0 s2
 have s7 := fa ?b3_2 a4 w4 7 (hd 2 7 rfl)
 replace e_w := e_w.trans x
 have e_w2 := x
 clear hd hs x
 refine exit_then ?_
 refine wp_cond_split (show _ = _ from s7) (fun hl => ?_) (fun hl => ?_)
 · skip
   have hl : l.length < 14 := by simp at hl; omega
   have hrd : linkRead l = (link0, 2) := linkGo_end (by omega)
   refine wp_seq ?_
   refine wp_reg_pre (l := [_]) (rest := [_, _]) 62 [[]] [?b6_0] (by kernel_rfl) (by kernel_rfl) hr ?t6 ?o6 ?_
   case o6 =>
    refine oc0 (fun A W hx hf => ?_) ?_
    exact ok_build0 built27
    exact OpsOk.nil
   case t6 => exact inferInstance
   clear hr; intro a7 w7 x hr hd hs
   revert s2; refine kp1 hs rfl ?_; intro s2
   clear s0 s7
   have s8 := fa ?b6_0 a7 w7 8 (hd 0 8 rfl)
   replace e_w := e_w.trans x
   replace e_w2 := e_w2.trans x
   clear hd hs x
   have z8 := PxS.lt (later e_w2 s2)
   have l8 := (show (g2_2 = 0 ∨ w.heap.size < g2_2) ∧ True from ⟨by omega, trivial⟩)
   refine wl_storeSn hr size27 (later e_w2 s2) s8 (by exact lnk_len link0_ok) (by exact lnk_one rfl) rfl ?_; clear hr; intro a8 w8 hc hu hr hs
   have hb : Below w.heap.size w7 w8 := hc.below e_w.size l8.1
   revert s2; refine kp1 hs rfl ?_; intro s2
   clear s8
   replace s2 := hu _ _ _ (later e_w2 s2)
   try simp only [List.set_cons_zero, List.set_cons_succ, lnkS] at s2
   replace e_w := e_w.below (Nat.le_refl _) hb
   clear e_w2
   clear hu hs hc hb
   refine wl_op hr (ok_assignc) inferInstance ?_; clear hr; intro a9 w9 x hr hd hs
   revert s2; refine kp1 hs rfl ?_; intro s2
   have s3 := hd 3 rfl (by decide)
   replace e_w := e_w.trans x
   have e_w8 := x
   clear hd hs x
   refine wpList_nil ?_
   refine exit_then ?_
   refine wp_ret ?_
   refine then_ret ?_
   refine ret_cell_tmp Try.results10 hr Try.underlying27 rfl size27 (later e_w8 s2) e_w ?_
   first | (rw [hrd]; exact ⟨_, _, rfl, ⟨_, rfl, ownR_nil⟩, s3⟩) | (rw [hrd]; exact ⟨_, _, rfl, ⟨_, rfl, OwnR.mono (OwnRA.own noGhost) hB⟩, s3⟩)
 · skip
   have hl : ¬ l.length < 14 := by simp at hl; omega
   have w12 := wordAt_bd l 12
   refine wp_skip ?_
   refine exit_then ?_
   refine wp_seq ?_
   refine wp_reg_pre (l := [_, _, _, _, _]) (rest := [_]) 62 [[(0, none)], [(9, some 0)], [(10, some 1)], [(11, some 2)], []] [?b10_0, ?b10_1, ?b10_2, ?b10_3, ?b10_4] (by kernel_rfl) (by kernel_rfl) hr ?t10 ?o10 ?_
   case o10 =>
    refine oc0 (fun A W hx hf => ?_) ?_
    exact ok_movE (a0 := a4) (r0 hf)
    refine oc0 (fun A W hx hf => ?_) ?_
    exact okW_slice_lo (12) Try.underlying22 size5 (sarg s0 (show _ = _ from (q0 ?b10_0 A W 9 hf))) (ec A (.int .i64 12)) (by first | omega | decide | (simp; done) | (simp; omega))
    refine oc0 (fun A W hx hf => ?_) ?_
    exact ok_call1 body18 (c_lnum (AtW.now (q0 ?b10_1 A W 10 hf) (e_w.trans hx)) (by simp; omega))
    refine oc0 (fun A W hx hf => ?_) ?_
    exact ok_buildS [(3, (.tmp 11)), (4, (.const (.int .i64 14)))] [(3, _), (4, _)] lay27 rfl (PartsC.one (q0 ?b10_2 A W 11 hf) rfl (PartsC.one (ec A (.int .i64 14)) rfl (PartsC.nil))) (by first | rfl | simp [adrCells, *])
    refine oc0 (fun A W hx hf => ?_) ?_
    exact ok_allocS (lnkS link0 (.slice none 0 0)) [6, 6, 1, 1, 1] zerov27 (by rfl) (by rfl) hx.size
    exact OpsOk.nil
   case t10 => exact inferInstance
   clear hr; intro a11 w11 x hr hd hs
   have z_w_w4 := e_w.size
   have z_w2_w4 := e_w2.size
   have l11_2 := PxS.lt (later e_w2 s2)
   revert s2; revert s0; refine kp2 hs rfl ?_; intro s0 s2
   clear s7
   have s12 := fa ?b10_3 a11 w11 12 (hd 3 12 rfl)
   have s4 := fa ?b10_4 a11 w11 4 (hd 4 4 rfl)
   obtain ⟨g11_4, q11_4⟩ := PxN.at s4; clear s4; have n11_4 := PxS.lt q11_4
   replace q11_4 := PxS.mono q11_4 e_w.size
   have s4 := q11_4; clear q11_4
   replace e_w := e_w.trans x
   replace e_w2 := e_w2.trans x
   clear hd hs x
   have z12 := PxS.lt s4
   have l12 := (show (g11_4 = 0 ∨ w.heap.size < g11_4) ∧ True from ⟨by omega, trivial⟩)
   have l12_2 := PxS.lt (later e_w2 s2)
   refine wl_storeSm (lnkS ⟨List.replicate 6 0, List.replicate 6 0, [], wordAt l 12, 14⟩ (.slice none 0 0)) hr size27 s4 (Is.conv s12 (show _ = Value.agg (lnkS ⟨List.replicate 6 0, List.replicate 6 0, [], wordAt l 12, 14⟩ (.slice none 0 0)).flatten.toArray from by rw [wordAt_drop]; rfl)) (by rfl) (by exact lnk_one rfl) rfl ?_; clear hr; intro a12 w12 hc hu hr hs
   have hb : Below w.heap.size w11 w12 := hc.below e_w.size l12.1
   revert s4; revert s2; revert s0; refine kp3 hs rfl ?_; intro s0 s2 s4
   clear s12
   replace s2 := PxS.other (later e_w2 s2) hc (by omega)
   replace s4 := hu _ _ _ s4
   try simp only [List.set_cons_zero, List.set_cons_succ, lnkS] at s4
   replace e_w := e_w.below (Nat.le_refl _) hb
   clear e_w2
   clear hu hs hc hb
   refine wpList_nil ?_
   refine exit_then ?_
   refine wp_seq ?_
   refine wp_reg_pre (l := [_, _, _]) (rest := [_]) 62 [[(4, none)], [(13, some 0)], [(0, none)]] [?b13_0, ?b13_1, ?b13_2] (by kernel_rfl) (by kernel_rfl) hr ?t13 ?o13 ?_
   case o13 =>
    refine oc0 (fun A W hx hf => ?_) ?_
    exact ok_fieldS 0 Try.underlying27 (k := 0) rfl size24 rfl (o1 s4 hx (r0 hf)) rfl
    refine oc0 (fun A W hx hf => ?_) ?_
    exact ok_sliceS Try.underlying24 size5 (q0 ?b13_0 A W 13 hf) rfl
    refine oc0 (fun A W hx hf => ?_) ?_
    exact ok_movE (a0 := a12) (r0 hf)
    exact OpsOk.nil
   case t13 => exact inferInstance
   clear hr; intro a14 w14 x hr hd hs
   have u15 := mv s0 (fa ?b13_2 a14 w14 15 (hd 2 15 rfl))
   revert s4; revert s2; revert s0; refine kp3 hs rfl ?_; intro s0 s2 s4
   have s15 := u15; clear u15
   have s14 := fa ?b13_1 a14 w14 14 (hd 1 14 rfl)
   replace e_w := e_w.trans x
   have e_w12 := x
   clear hd hs x
   have z15 := SxS.lt s14
   have l15 := (show (g11_4 = 0 ∨ w.heap.size < g11_4) ∧ True from ⟨by omega, trivial⟩)
   have l15_2 := PxS.lt (later e_w12 s2)
   refine wl_copyS hr Try.underlying22 size5 s14 rfl (later e_w s15) ?_; clear hr; intro a15 w15 hc hu hr hs
   have hb : Below w.heap.size w14 w15 := hc.below e_w.size l15.1
   revert s4; revert s2; revert s0; refine kp3 hs rfl ?_; intro s0 s2 s4
   clear s15 s14
   replace s2 := PxS.other (later e_w12 s2) hc (by omega)
   replace s4 := hu _ _ _ (later e_w12 s4)
   try simp only [List.set_cons_zero, List.set_cons_succ, lnkS] at s4
   replace e_w := e_w.below (Nat.le_refl _) hb
   clear e_w12
   clear hu hs hc hb
   refine wpList_nil ?_
   replace s4 := PxS.cast s4 (show _ = lnkS ⟨l.take 6, List.replicate 6 0, [], wordAt l 12, 14⟩ (.slice none 0 0) from by rw [cpy6 (by omega)]; rfl)
   refine exit_then ?_
   refine wp_seq ?_
   refine wp_any_start mixed (fun w16 x => ?_)
   show wpAny _ _ _ _ 5 _ _ _
   replace e_w := e_w.trans x
   have e_w15 := x
   clear x
   refine wp_sel (l := [_, _, _, _, _]) 62 _ [false, false, false, false, true] [4] [[(4, none)], [(17, some 0)], [(0, none)], [(19, some 2)], []] [?b17_0, ?b17_1, ?b17_2, ?b17_3, VP.top] (by kernel_rfl) rfl (by kernel_rfl) hr ?t17 ?o17 ?_
   case o17 =>
    refine lc0 (fun A W hx hf => ?_) ?_
    exact ok_fieldS 1 Try.underlying27 (k := 1) rfl size24 rfl (o2 s4 e_w15 hx (r0 hf)) rfl
    refine lc0 (fun A W hx hf => ?_) ?_
    exact ok_sliceS Try.underlying24 size5 (q0 ?b17_0 A W 17 hf) rfl
    refine lc0 (fun A W hx hf => ?_) ?_
    exact ok_movE (a0 := a15) (r0 hf)
    refine lc0 (fun A W hx hf => ?_) ?_
    exact okW_slice_lo (6) Try.underlying22 size5 (sarg s0 (show _ = _ from (q0 ?b17_2 A W 19 hf))) (ec A (.int .i64 6)) (by first | omega | decide | (simp; done) | (simp; omega))
    refine lcs ?_
    exact lcn
   case t17 => exact inferInstance
   clear hr; intro a18 w18 x hr hd hs
   have u19 := mv s0 (fa ?b17_2 a18 w18 19 (hd 2 19 rfl rfl))
   revert s4; revert s2; revert s0; refine kp3 hs rfl ?_; intro s0 s2 s4
   have s19 := u19; clear u19
   have s17 := fa ?b17_0 a18 w18 17 (hd 0 17 rfl rfl)
   have s18 := fa ?b17_1 a18 w18 18 (hd 1 18 rfl rfl)
   have s20 := AtW.base (fa ?b17_3 a18 w18 20 (hd 3 20 rfl rfl))
   replace e_w := e_w.trans x
   replace e_w15 := e_w15.trans x
   clear hd hs x
   show wpList _ _ _ [_] _ _
   have z19 := SxS.lt s18
   have l19 := (show (g11_4 = 0 ∨ w.heap.size < g11_4) ∧ True from ⟨by omega, trivial⟩)
   have l19_2 := PxS.lt (later e_w15 s2)
   refine wl_copyS hr Try.underlying22 size5 s18 rfl (later e_w s20) ?_; clear hr; intro a19 w19 hc hu hr hs
   have hb : Below w.heap.size w18 w19 := hc.below e_w.size l19.1
   revert s4; revert s2; revert s0; refine kp3 hs rfl ?_; intro s0 s2 s4
   clear s19 s17 s18 s20
   replace s2 := PxS.other (later e_w15 s2) hc (by omega)
   replace s4 := hu _ _ _ (later e_w15 s4)
   try simp only [List.set_cons_zero, List.set_cons_succ, lnkS] at s4
   replace e_w := e_w.below (Nat.le_refl _) hb
   clear e_w15
   clear hu hs hc hb
   refine wpList_nil ?_
   replace s4 := PxS.cast s4 (show _ = lnkS ⟨l.take 6, (l.drop 6).take 6, [], wordAt l 12, (12 : Int) + 2⟩ (.slice none 0 0) from by rw [cpy6 (by simp; omega)]; rfl)
   have gT : OwnRA 0 w.heap.size 45 tagR [] (.slice none 0 0) w19 := ownRA_nil
   refine exit_then ?_
   refine wp_seq ?_
   refine wp_block ?_
   refine wp_loop_inv (fun n A W => ∃ (k p : Nat) (ts : List TagL) (v : Value) (γ : Nat), n = k ∧ Fr 62 A ∧ Same D_c_lRead_0 a19 A ∧ Ext w W ∧ (k ≤ 2) ∧ (ts.length + k = 2) ∧ (12 ≤ p) ∧ (p + 2 ≤ l.length) ∧ (linkRead l = linkGo l k p ts) ∧ (g11_4 ≠ γ) ∧ (g2_2 ≠ γ) ∧ (p + 4 * k = 20) ∧ (OwnRA γ w.heap.size 45 tagR ts) (v) W ∧ (PxS g2_2 w.heap.size [15] [(lnkS link0 (.slice none 0 0)).flatten] 0) (A.eval (.tmp 2)) W ∧ (PxS g11_4 w.heap.size [6, 6, 1, 1, 1] (lnkS ⟨l.take 6, (l.drop 6).take 6, ts, wordAt l p, (p : Int) + 2⟩ v) 0) (A.eval (.tmp 4)) W) ?start20 ?_
   case start20 =>
    refine ⟨_, 2, 12, [], (.slice none 0 0), 0, rfl, hr, Same.rfl, e_w, (by omega), (by rfl), (by omega), (by omega), (by rfl), (by omega), (by omega), (by omega), gT, ?_, ?_⟩
    · exact s2
    · exact s4
   intro n20 a20 w20 hI
   clear e_w
   clear hr; obtain ⟨k, p, ts, v, γ, hn20, hr, hs, e_w, hk, hts, hp, hpl, hsr, ne4, ne2, hpk, gT, u2, u4⟩ := hI
   revert s0; refine kp1 hs rfl ?_; intro s0
   clear s2 s4
   have s2 := u2; clear u2
   have s4 := u4; clear u4
   replace s4 := PxS.cast s4 (show _ = [(l.take 6).map byteV, ((l.drop 6).take 6).map byteV, [v], [.int .i64 (wordAt l p)], [.int .i64 ((p : Int) + 2)]] from rfl)
   have m20 := hs; clear hs
   refine wp_seq ?_
   refine wp_seq ?_
   refine wp_reg 62 [[(4, none)], [(22, some 0)], [(23, some 1)]] [?b21_0, ?b21_1, ?b21_2] mixed (by kernel_rfl) (by kernel_rfl) hr ?t21 ?o21 ?_
   case o21 =>
    refine oc0 (fun A W hx hf => ?_) ?_
    exact ok_fieldS 3 Try.underlying27 (k := 3) rfl size3 rfl (o1 s4 hx (r0 hf)) rfl
    refine oc0 (fun A W hx hf => ?_) ?_
    exact ok_loadS Try.underlying3 rfl (q0 ?b21_0 A W 22 hf) rfl
    refine oc0 (fun A W hx hf => ?_) ?_
    exact ok_call1 body19 (c_ltag (q0 ?b21_1 A W 23 hf))
    exact OpsOk.nil
   case t21 => exact inferInstance
   clear hr; intro a22 w22 x hr hd hs
   revert s4; revert s2; revert s0; refine kp3 hs rfl ?_; intro s0 s2 s4
   have s24 := fa ?b21_2 a22 w22 24 (hd 2 24 rfl)
   replace e_w := e_w.trans x
   have e_w20 := x
   replace m20 := m20.tr hs rfl
   clear hd hs x
   refine exit_then ?_
   refine wp_cond_split (show _ = _ from s24) (fun ht => ?_) (fun ht => ?_)
   · skip
     have wp := wordAt_bd l p
     refine wp_skip ?_
     refine exit_then ?_
     refine wp_block ?_
     refine wp_seq ?_
     refine wp_seq ?_
     refine wp_reg 62 [[(4, none)], [(25, some 0)], [(26, some 1)], [(27, some 2)]] [?b24_0, ?b24_1, ?b24_2, ?b24_3] mixed (by kernel_rfl) (by kernel_rfl) hr ?t24 ?o24 ?_
     case o24 =>
      refine oc0 (fun A W hx hf => ?_) ?_
      exact ok_fieldS 2 Try.underlying27 (k := 2) rfl size25 rfl (o2 s4 e_w20 hx (r0 hf)) rfl
      refine oc0 (fun A W hx hf => ?_) ?_
      exact ok_is (ok_loadS Try.underlying25 rfl (q0 ?b24_0 A W 25 hf) rfl) (OwnRA.rw (later (e_w20.trans hx) gT))
      refine oc0 (fun A W hx hf => ?_) ?_
      exact ok_len_rw Try.underlying25 (q0 ?b24_1 A W 26 hf)
      refine oc0 (fun A W hx hf => ?_) ?_
      exact ok_eql (q0 ?b24_2 A W 27 hf) (ec A (.int .i64 2))
      exact OpsOk.nil
     case t24 => exact inferInstance
     clear hr; intro a25 w25 x hr hd hs
     revert s4; revert s2; revert s0; refine kp3 hs rfl ?_; intro s0 s2 s4
     clear s24
     have s28 := fa ?b24_3 a25 w25 28 (hd 3 28 rfl)
     replace e_w := e_w.trans x
     replace e_w20 := e_w20.trans x
     replace m20 := m20.tr hs rfl
     clear hd hs x
     refine exit_then ?_
     refine wp_cond_split (show _ = _ from s28) (fun hk2 => ?_) (fun hk2 => ?_)
     · skip
       have hk0 : k = 0 := by simp at hk2; omega
       rw [hk0] at hsr
       have hrd := hsr.trans (linkGo_long (by omega) ht)
       refine wp_seq ?_
       refine wp_reg_pre (l := [_]) (rest := [_, _]) 62 [[]] [?b27_0] (by kernel_rfl) (by kernel_rfl) hr ?t27 ?o27 ?_
       case o27 =>
        refine oc0 (fun A W hx hf => ?_) ?_
        exact ok_build0 built27
        exact OpsOk.nil
       case t27 => exact inferInstance
       clear hr; intro a28 w28 x hr hd hs
       revert s2; refine kp1 hs rfl ?_; intro s2
       clear s0 s4 s28
       have s29 := fa ?b27_0 a28 w28 29 (hd 0 29 rfl)
       replace e_w := e_w.trans x
       replace e_w20 := e_w20.trans x
       replace m20 := m20.tr hs rfl
       clear hd hs x
       have z29 := PxS.lt (later e_w20 s2)
       have l29 := (show (g2_2 = 0 ∨ w.heap.size < g2_2) ∧ True from ⟨by omega, trivial⟩)
       have l29_gT := OwnRA.lt (later e_w20 gT)
       refine wl_storeSn hr size27 (later e_w20 s2) s29 (by exact lnk_len link0_ok) (by exact lnk_one rfl) rfl ?_; clear hr; intro a29 w29 hc hu hr hs
       have hb : Below w.heap.size w28 w29 := hc.below e_w.size l29.1
       revert s2; refine kp1 hs rfl ?_; intro s2
       clear s29
       replace s2 := hu _ _ _ (later e_w20 s2)
       try simp only [List.set_cons_zero, List.set_cons_succ, lnkS] at s2
       replace gT := OwnRA.other (later e_w20 gT) hc (by omega)
       replace e_w := e_w.below (Nat.le_refl _) hb
       clear e_w20
       replace m20 := m20.tr hs rfl
       clear hu hs hc hb
       refine wl_op hr (ok_assignc) inferInstance ?_; clear hr; intro a30 w30 x hr hd hs
       revert s2; refine kp1 hs rfl ?_; intro s2
       have s3 := hd 3 rfl (by decide)
       replace e_w := e_w.trans x
       have e_w29 := x
       replace m20 := m20.tr hs rfl
       clear hd hs x
       refine wpList_nil ?_
       refine exit_then ?_
       refine wp_ret ?_
       refine then_ret ?_
       refine blk_ret ?_
       refine then_ret ?_
       refine blk_ret ?_
       refine then_ret ?_
       refine ret_cell_tmp Try.results10 hr Try.underlying27 rfl size27 (later e_w29 s2) e_w ?_
       first | (rw [hrd]; exact ⟨_, _, rfl, ⟨_, rfl, ownR_nil⟩, s3⟩) | (rw [hrd]; exact ⟨_, _, rfl, ⟨_, rfl, OwnR.mono (OwnRA.own (later e_w29 gT)) hB⟩, s3⟩)
     · skip
       have hk0 : k ≠ 0 := by simp at hk2; omega
       obtain ⟨kq, hkq⟩ : ∃ q, k = q + 1 := ⟨k - 1, by omega⟩
       rw [hkq] at hsr
       refine wp_skip ?_
       refine exit_then ?_
       refine wp_seq ?_
       refine wp_seq ?_
       refine wp_reg 62 [[(0, none)], [(30, some 0)], [(4, none)], [(32, some 2)], [(33, some 3)], [(31, some 1), (34, some 4)]] [?b31_0, ?b31_1, ?b31_2, ?b31_3, ?b31_4, ?b31_5] mixed (by kernel_rfl) (by kernel_rfl) hr ?t31 ?o31 ?_
       case o31 =>
        refine oc0 (fun A W hx hf => ?_) ?_
        exact ok_movE (a0 := a25) (r0 hf)
        refine oc0 (fun A W hx hf => ?_) ?_
        exact ok_len_bs Try.underlying22 (p2 s0 e_w hx (q0 ?b31_0 A W 30 hf))
        refine oc0 (fun A W hx hf => ?_) ?_
        exact ok_fieldS 4 Try.underlying27 (k := 4) rfl size3 rfl (o2 s4 e_w20 hx (r0 hf)) rfl
        refine oc0 (fun A W hx hf => ?_) ?_
        exact ok_loadS Try.underlying3 rfl (q0 ?b31_2 A W 32 hf) rfl
        refine oc0 (fun A W hx hf => ?_) ?_
        exact ok_addI (q0 ?b31_3 A W 33 hf) (ec A (.int .i64 4)) (by omega)
        refine oc0 (fun A W hx hf => ?_) ?_
        exact ok_lss (q0 ?b31_1 A W 31 hf) (q1 ?b31_4 A W 34 hf)
        exact OpsOk.nil
       case t31 => exact inferInstance
       clear hr; intro a32 w32 x hr hd hs
       revert s4; revert s2; revert s0; refine kp3 hs rfl ?_; intro s0 s2 s4
       clear s28
       have s35 := fa ?b31_5 a32 w32 35 (hd 5 35 rfl)
       replace e_w := e_w.trans x
       replace e_w20 := e_w20.trans x
       replace m20 := m20.tr hs rfl
       clear hd hs x
       refine exit_then ?_
       refine wp_cond_split (show _ = _ from s35) (fun h6 => ?_) (fun h6 => ?_)
       · skip
         have h6 : l.length < p + 6 := by simp at h6; omega
         have hrd := hsr.trans (linkGo_cut (by omega) ht h6)
         refine wp_seq ?_
         refine wp_reg_pre (l := [_]) (rest := [_, _]) 62 [[]] [?b34_0] (by kernel_rfl) (by kernel_rfl) hr ?t34 ?o34 ?_
         case o34 =>
          refine oc0 (fun A W hx hf => ?_) ?_
          exact ok_build0 built27
          exact OpsOk.nil
         case t34 => exact inferInstance
         clear hr; intro a35 w35 x hr hd hs
         revert s2; refine kp1 hs rfl ?_; intro s2
         clear s0 s4 s35
         have s36 := fa ?b34_0 a35 w35 36 (hd 0 36 rfl)
         replace e_w := e_w.trans x
         replace e_w20 := e_w20.trans x
         replace m20 := m20.tr hs rfl
         clear hd hs x
         have z36 := PxS.lt (later e_w20 s2)
         have l36 := (show (g2_2 = 0 ∨ w.heap.size < g2_2) ∧ True from ⟨by omega, trivial⟩)
         have l36_gT := OwnRA.lt (later e_w20 gT)
         refine wl_storeSn hr size27 (later e_w20 s2) s36 (by exact lnk_len link0_ok) (by exact lnk_one rfl) rfl ?_; clear hr; intro a36 w36 hc hu hr hs
         have hb : Below w.heap.size w35 w36 := hc.below e_w.size l36.1
         revert s2; refine kp1 hs rfl ?_; intro s2
         clear s36
         replace s2 := hu _ _ _ (later e_w20 s2)
         try simp only [List.set_cons_zero, List.set_cons_succ, lnkS] at s2
         replace gT := OwnRA.other (later e_w20 gT) hc (by omega)
         replace e_w := e_w.below (Nat.le_refl _) hb
         clear e_w20
         replace m20 := m20.tr hs rfl
         clear hu hs hc hb
         refine wl_op hr (ok_assignc) inferInstance ?_; clear hr; intro a37 w37 x hr hd hs
         revert s2; refine kp1 hs rfl ?_; intro s2
         have s3 := hd 3 rfl (by decide)
         replace e_w := e_w.trans x
         have e_w36 := x
         replace m20 := m20.tr hs rfl
         clear hd hs x
         refine wpList_nil ?_
         refine exit_then ?_
         refine wp_ret ?_
         refine then_ret ?_
         refine blk_ret ?_
         refine then_ret ?_
         refine blk_ret ?_
         refine then_ret ?_
         refine ret_cell_tmp Try.results10 hr Try.underlying27 rfl size27 (later e_w36 s2) e_w ?_
         first | (rw [hrd]; exact ⟨_, _, rfl, ⟨_, rfl, ownR_nil⟩, s3⟩) | (rw [hrd]; exact ⟨_, _, rfl, ⟨_, rfl, OwnR.mono (OwnRA.own (later e_w36 gT)) hB⟩, s3⟩)
       · skip
         have h6 : ¬ l.length < p + 6 := by simp at h6; omega
         replace hsr := hsr.trans (linkGo_step (by omega) ht h6)
         refine wp_skip ?_
         refine exit_then ?_
         refine wp_seq ?_
         refine wp_any_start mixed (fun w38 x => ?_)
         show wpAny _ _ _ _ 14 _ _ _
         replace e_w := e_w.trans x
         replace e_w20 := e_w20.trans x
         have e_w32 := x
         clear x
         refine wp_sel (l := [_, _, _, _, _, _, _, _, _, _, _, _, _, _]) 62 _ [false, false, false, false, false, false, false, false, false, false, false, true, true, true] [11, 12, 13] [[(4, none)], [(37, some 0)], [(4, none)], [(39, some 2)], [(0, none)], [(4, none)], [(42, some 5)], [(41, some 4), (43, some 6)], [(44, some 7)], [(40, some 3), (45, some 8)], [(46, some 9)], [], [], []] [?b39_0, ?b39_1, ?b39_2, ?b39_3, ?b39_4, ?b39_5, ?b39_6, ?b39_7, ?b39_8, ?b39_9, ?b39_10, VP.top, VP.top, VP.top] (by kernel_rfl) rfl (by kernel_rfl) hr ?t39 ?o39 ?_
         case o39 =>
          refine lc0 (fun A W hx hf => ?_) ?_
          exact ok_fieldS 2 Try.underlying27 (k := 2) rfl size25 rfl (o2 s4 e_w20 hx (r0 hf)) rfl
          refine lc0 (fun A W hx hf => ?_) ?_
          exact ok_is (ok_loadS Try.underlying25 rfl (q0 ?b39_0 A W 37 hf) rfl) (later (e_w20.trans hx) gT)
          refine lc0 (fun A W hx hf => ?_) ?_
          exact ok_fieldS 3 Try.underlying27 (k := 3) rfl size3 rfl (o2 s4 e_w20 hx (r0 hf)) rfl
          refine lc0 (fun A W hx hf => ?_) ?_
          exact ok_loadS Try.underlying3 rfl (q0 ?b39_2 A W 39 hf) rfl
          refine lc0 (fun A W hx hf => ?_) ?_
          exact ok_movE (a0 := a32) (r0 hf)
          refine lc0 (fun A W hx hf => ?_) ?_
          exact ok_fieldS 4 Try.underlying27 (k := 4) rfl size3 rfl (o2 s4 e_w20 hx (r0 hf)) rfl
          refine lc0 (fun A W hx hf => ?_) ?_
          exact ok_loadS Try.underlying3 rfl (q0 ?b39_5 A W 42 hf) rfl
          refine lc0 (fun A W hx hf => ?_) ?_
          exact okW_slice_lo (p + 2) Try.underlying22 size5 (sarg s0 (show _ = _ from (q0 ?b39_4 A W 41 hf))) (Is.int (q1 ?b39_6 A W 43 hf) (by omega)) (by omega)
          refine lc0 (fun A W hx hf => ?_) ?_
          exact ok_call1 body18 (c_lnum (AtW.now (q0 ?b39_7 A W 44 hf) (e_w.trans hx)) (by simp; omega))
          refine lc0 (fun A W hx hf => ?_) ?_
          exact ok_buildS [(0, (.tmp 40)), (1, (.tmp 45))] [(0, _), (1, _)] lay45 rfl (PartsC.one (q0 ?b39_3 A W 40 hf) rfl (PartsC.one (q1 ?b39_8 A W 45 hf) rfl (PartsC.nil))) (by first | rfl | simp [adrCells, *])
          refine lc0 (fun A W hx hf => ?_) ?_
          exact ok_buildRw (R := tagR) [(.tmp 46)] [⟨wordAt l p, wordAt (l.drop (p + 2)) 0⟩] Try.underlying25 size45 zerom45 rfl rfl rfl (by decide) (PartsR.cons (Is.conv (q0 ?b39_9 A W 46 hf) rfl) (PartsR.nil)) hx.size
          refine lcs ?_
          refine lcs ?_
          refine lcs ?_
          exact lcn
         case t39 => exact inferInstance
         clear hr; intro a40 w40 x hr hd hs
         have z_w_w38 := e_w.size
         have z_w20_w38 := e_w20.size
         have z_w32_w38 := e_w32.size
         have l40_2 := PxS.lt (later e_w20 s2)
         have l40_4 := PxS.lt (later e_w20 s4)
         have l40_gT := OwnRA.lt (later e_w20 gT)
         have u41 := mv s0 (fa ?b39_4 a40 w40 41 (hd 4 41 rfl rfl))
         revert s4; revert s2; revert s0; refine kp3 hs rfl ?_; intro s0 s2 s4
         clear s35
         have s41 := u41; clear u41
         have s37 := fa ?b39_0 a40 w40 37 (hd 0 37 rfl rfl)
         have s38 := fa ?b39_1 a40 w40 38 (hd 1 38 rfl rfl)
         have s39 := fa ?b39_2 a40 w40 39 (hd 2 39 rfl rfl)
         have s40 := fa ?b39_3 a40 w40 40 (hd 3 40 rfl rfl)
         have s42 := fa ?b39_5 a40 w40 42 (hd 5 42 rfl rfl)
         have s43 := fa ?b39_6 a40 w40 43 (hd 6 43 rfl rfl)
         have s44 := AtW.base (fa ?b39_7 a40 w40 44 (hd 7 44 rfl rfl))
         have s45 := fa ?b39_8 a40 w40 45 (hd 8 45 rfl rfl)
         have s46 := fa ?b39_9 a40 w40 46 (hd 9 46 rfl rfl)
         have s47 := fa ?b39_10 a40 w40 47 (hd 10 47 rfl rfl)
         obtain ⟨g40_47, q40_47⟩ := OwnR.at s47; clear s47; have n40_47 := OwnRA.lt q40_47
         replace q40_47 := OwnRA.mono q40_47 e_w.size
         have s47 := q40_47; clear q40_47
         replace e_w := e_w.trans x
         replace e_w20 := e_w20.trans x
         clear e_w32
         replace m20 := m20.tr hs rfl
         clear hd hs x
         show wpList _ _ _ [_, _, _] _ _
         have l41 := OwnRA.lt s38
         have l41_2 := PxS.lt (later e_w20 s2)
         have l41_4 := PxS.lt (later e_w20 s4)
         refine wl_append_rwA hr (by decide) Try.underlying25 infom45 rfl s38 (OwnRA.rw s47) e_w.size (by simp; omega) ?_; clear hr; intro g41 a41 w41 hg41 hc hr hd hs
         have hb := hc.below e_w.size l41.1
         revert s4; revert s2; revert s0; refine kp3 hs rfl ?_; intro s0 s2 s4
         clear s41 s37 s38 s39 s40 s42 s43 s44 s45 s46 s47
         replace s2 := PxS.other (later e_w20 s2) hc (by omega)
         replace s4 := PxS.other (later e_w20 s4) hc (by omega)
         have s48 := hd
         obtain ⟨vT, hsv⟩ : ∃ v, v = a41.eval (.tmp 48) := ⟨_, rfl⟩; have gT := s48; rw [← hsv] at gT; replace s48 : Is vT (a41.eval (.tmp 48)) w41 := hsv.symm; clear hsv
         replace e_w := e_w.below (Nat.le_refl _) hb
         clear e_w20
         replace m20 := m20.tr hs rfl
         clear hd hs hb hc
         refine wl_op hr (ok_fieldS 2 Try.underlying27 (k := 2) rfl size25 rfl s4 rfl) inferInstance ?_; clear hr; intro a42 w42 x hr hd hs
         revert s48; revert s4; revert s2; revert s0; refine kp4 hs rfl ?_; intro s0 s2 s4 s48
         have s49 := hd 49 rfl (by decide)
         replace e_w := e_w.trans x
         have e_w41 := x
         replace m20 := m20.tr hs rfl
         clear hd hs x
         have z43 := PxS.lt s49
         have l43 := (show (g11_4 = 0 ∨ w.heap.size < g11_4) ∧ True from ⟨by omega, trivial⟩)
         have l43_2 := PxS.lt (later e_w41 s2)
         have l43_gT := OwnRA.lt (later e_w41 gT)
         refine wl_storeS hr size25 s49 (later e_w41 s48) (by exact rw_one (OwnRA.rw gT)) rfl ?_; clear hr; intro a43 w43 hc hu hr hs
         have hb : Below w.heap.size w42 w43 := hc.below e_w.size l43.1
         revert s4; revert s2; revert s0; refine kp3 hs rfl ?_; intro s0 s2 s4
         clear s48 s49
         replace s2 := PxS.other (later e_w41 s2) hc (by omega)
         replace s4 := hu _ _ _ (later e_w41 s4)
         try simp only [List.set_cons_zero, List.set_cons_succ, lnkS] at s4
         replace gT := OwnRA.other (later e_w41 gT) hc (by omega)
         replace e_w := e_w.below (Nat.le_refl _) hb
         clear e_w41
         replace m20 := m20.tr hs rfl
         clear hu hs hc hb
         refine wpList_nil ?_
         replace gT := OwnRA.cast gT (show _ = ts ++ [⟨wordAt l p, wordAt l (p + 2)⟩] from by rw [wordAt_drop])
         replace s4 := PxS.cast s4 (show _ = [(l.take 6).map byteV, ((l.drop 6).take 6).map byteV, [vT], [.int .i64 (wordAt l p)], [.int .i64 ((p : Int) + 2)]] from rfl)
         refine exit_then ?_
         refine wp_seq ?_
         refine wp_reg_pre (l := [_, _, _, _, _, _, _]) (rest := [_]) 62 [[(0, none)], [(4, none)], [(51, some 1)], [(52, some 2)], [(50, some 0), (53, some 3)], [(54, some 4)], [(4, none)]] [?b44_0, ?b44_1, ?b44_2, ?b44_3, ?b44_4, ?b44_5, ?b44_6] (by kernel_rfl) (by kernel_rfl) hr ?t44 ?o44 ?_
         case o44 =>
          refine oc0 (fun A W hx hf => ?_) ?_
          exact ok_movE (a0 := a43) (r0 hf)
          refine oc0 (fun A W hx hf => ?_) ?_
          exact ok_fieldS 4 Try.underlying27 (k := 4) rfl size3 rfl (o1 s4 hx (r0 hf)) rfl
          refine oc0 (fun A W hx hf => ?_) ?_
          exact ok_loadS Try.underlying3 rfl (q0 ?b44_1 A W 51 hf) rfl
          refine oc0 (fun A W hx hf => ?_) ?_
          exact ok_addI (q0 ?b44_2 A W 52 hf) (ec A (.int .i64 2)) (by omega)
          refine oc0 (fun A W hx hf => ?_) ?_
          exact okW_slice_lo (p + 4) Try.underlying22 size5 (sarg s0 (show _ = _ from (q0 ?b44_0 A W 50 hf))) (Is.int (q1 ?b44_3 A W 53 hf) (by omega)) (by omega)
          refine oc0 (fun A W hx hf => ?_) ?_
          exact ok_call1 body18 (c_lnum (AtW.now (q0 ?b44_4 A W 54 hf) (e_w.trans hx)) (by simp; omega))
          refine oc0 (fun A W hx hf => ?_) ?_
          exact ok_fieldS 3 Try.underlying27 (k := 3) rfl size3 rfl (o1 s4 hx (r0 hf)) rfl
          exact OpsOk.nil
         case t44 => exact inferInstance
         clear hr; intro a45 w45 x hr hd hs
         revert s4; revert s2; revert s0; refine kp3 hs rfl ?_; intro s0 s2 s4
         have s55 := fa ?b44_5 a45 w45 55 (hd 5 55 rfl)
         have s56 := fa ?b44_6 a45 w45 56 (hd 6 56 rfl)
         replace e_w := e_w.trans x
         have e_w43 := x
         replace m20 := m20.tr hs rfl
         clear hd hs x
         have z46 := PxS.lt s56
         have l46 := (show (g11_4 = 0 ∨ w.heap.size < g11_4) ∧ True from ⟨by omega, trivial⟩)
         have l46_2 := PxS.lt (later e_w43 s2)
         have l46_gT := OwnRA.lt (later e_w43 gT)
         refine wl_storeS hr size3 s56 (Is.int s55 (show _ = wordAt l (p + 4) from by rw [wordAt_drop])) (by rfl) rfl ?_; clear hr; intro a46 w46 hc hu hr hs
         have hb : Below w.heap.size w45 w46 := hc.below e_w.size l46.1
         revert s4; revert s2; revert s0; refine kp3 hs rfl ?_; intro s0 s2 s4
         clear s55 s56
         replace s2 := PxS.other (later e_w43 s2) hc (by omega)
         replace s4 := hu _ _ _ (later e_w43 s4)
         try simp only [List.set_cons_zero, List.set_cons_succ, lnkS] at s4
         replace gT := OwnRA.other (later e_w43 gT) hc (by omega)
         replace e_w := e_w.below (Nat.le_refl _) hb
         clear e_w43
         replace m20 := m20.tr hs rfl
         clear hu hs hc hb
         refine wpList_nil ?_
         replace s4 := PxS.cast s4 (show _ = [(l.take 6).map byteV, ((l.drop 6).take 6).map byteV, [vT], [.int .i64 (wordAt l (p + 4))], [.int .i64 ((p : Int) + 2)]] from rfl)
         refine exit_then ?_
         refine wp_reg_pre (l := [_, _, _, _]) (rest := [_]) 62 [[(4, none)], [(57, some 0)], [(58, some 1)], [(4, none)]] [?b47_0, ?b47_1, ?b47_2, ?b47_3] (by kernel_rfl) (by kernel_rfl) hr ?t47 ?o47 ?_
         case o47 =>
          refine oc0 (fun A W hx hf => ?_) ?_
          exact ok_fieldS 4 Try.underlying27 (k := 4) rfl size3 rfl (o1 s4 hx (r0 hf)) rfl
          refine oc0 (fun A W hx hf => ?_) ?_
          exact ok_loadS Try.underlying3 rfl (q0 ?b47_0 A W 57 hf) rfl
          refine oc0 (fun A W hx hf => ?_) ?_
          exact ok_addI (q0 ?b47_1 A W 58 hf) (ec A (.int .i64 4)) (by omega)
          refine oc0 (fun A W hx hf => ?_) ?_
          exact ok_fieldS 4 Try.underlying27 (k := 4) rfl size3 rfl (o1 s4 hx (r0 hf)) rfl
          exact OpsOk.nil
         case t47 => exact inferInstance
         clear hr; intro a48 w48 x hr hd hs
         revert s4; revert s2; revert s0; refine kp3 hs rfl ?_; intro s0 s2 s4
         have s59 := fa ?b47_2 a48 w48 59 (hd 2 59 rfl)
         have s60 := fa ?b47_3 a48 w48 60 (hd 3 60 rfl)
         replace e_w := e_w.trans x
         have e_w46 := x
         replace m20 := m20.tr hs rfl
         clear hd hs x
         have z49 := PxS.lt s60
         have l49 := (show (g11_4 = 0 ∨ w.heap.size < g11_4) ∧ True from ⟨by omega, trivial⟩)
         have l49_2 := PxS.lt (later e_w46 s2)
         have l49_gT := OwnRA.lt (later e_w46 gT)
         refine wl_storeS hr size3 s60 (Is.int s59 (show _ = ((p + 4 : Nat) : Int) + 2 from by omega)) (by rfl) rfl ?_; clear hr; intro a49 w49 hc hu hr hs
         have hb : Below w.heap.size w48 w49 := hc.below e_w.size l49.1
         revert s4; revert s2; revert s0; refine kp3 hs rfl ?_; intro s0 s2 s4
         clear s59 s60
         replace s2 := PxS.other (later e_w46 s2) hc (by omega)
         replace s4 := hu _ _ _ (later e_w46 s4)
         try simp only [List.set_cons_zero, List.set_cons_succ, lnkS] at s4
         replace gT := OwnRA.other (later e_w46 gT) hc (by omega)
         replace e_w := e_w.below (Nat.le_refl _) hb
         clear e_w46
         replace m20 := m20.tr hs rfl
         clear hu hs hc hb
         refine wpList_nil ?_
         refine blk_normal ?_
         refine exit_then ?_
         refine ⟨(fun (k p : Nat) (ts : List TagL) (v : Value) (γ : Nat) => k) (kq) (p + 4) (ts ++ [⟨wordAt l p, wordAt l (p + 2)⟩]) (vT) (0), ?_, ?_⟩
         · (try dsimp only); omega
         refine ⟨kq, p + 4, ts ++ [⟨wordAt l p, wordAt l (p + 2)⟩], vT, g41, rfl, hr, m20, e_w, (by omega), (by simp; omega), (by omega), (by omega), (by exact hsr), (by omega), (by omega), (by omega), gT, ?_, ?_⟩
         · exact s2
         · exact s4
   · skip
     have hrd := hsr.trans (linkGo_done (by omega) ht)
     refine wp_exit ?_
     refine then_exit ?_
     refine then_exit ?_
     refine blk_exit ?_
     refine exit_then ?_
     refine wp_seq ?_
     refine wp_reg_pre (l := [_]) (rest := [_, _]) 62 [[(4, none)]] [?b50_0] (by kernel_rfl) (by kernel_rfl) hr ?t50 ?o50 ?_
     case o50 =>
      refine oc0 (fun A W hx hf => ?_) ?_
      exact ok_loadAggS 5 Try.underlying27 rfl size27 (o2 s4 e_w20 hx (r0 hf)) rfl
      exact OpsOk.nil
     case t50 => exact inferInstance
     clear hr; intro a51 w51 x hr hd hs
     revert s2; refine kp1 hs rfl ?_; intro s2
     clear s0 s4 s24
     have s61 := fa ?b50_0 a51 w51 61 (hd 0 61 rfl)
     replace e_w := e_w.trans x
     replace e_w20 := e_w20.trans x
     clear hd hs x
     have z52 := PxS.lt (later e_w20 s2)
     have l52 := (show (g2_2 = 0 ∨ w.heap.size < g2_2) ∧ True from ⟨by omega, trivial⟩)
     have l52_gT := OwnRA.lt (later e_w20 gT)
     refine wl_storeSn hr size27 (later e_w20 s2) (Is.conv s61 (lnk_all (L := ⟨l.take 6, (l.drop 6).take 6, ts, wordAt l p, (p : Int) + 2⟩) (v := v))) (by exact lnk_len ⟨by simp; omega, by simp; omega⟩) (by exact lnk_one (rw_one (OwnRA.rw gT))) rfl ?_; clear hr; intro a52 w52 hc hu hr hs
     have hb : Below w.heap.size w51 w52 := hc.below e_w.size l52.1
     revert s2; refine kp1 hs rfl ?_; intro s2
     clear s61
     replace s2 := hu _ _ _ (later e_w20 s2)
     try simp only [List.set_cons_zero, List.set_cons_succ, lnkS] at s2
     replace gT := OwnRA.other (later e_w20 gT) hc (by omega)
     replace e_w := e_w.below (Nat.le_refl _) hb
     clear e_w20
     clear hu hs hc hb
     refine wl_op hr (ok_assignc) inferInstance ?_; clear hr; intro a53 w53 x hr hd hs
     revert s2; refine kp1 hs rfl ?_; intro s2
     have s3 := hd 3 rfl (by decide)
     replace e_w := e_w.trans x
     have e_w52 := x
     clear hd hs x
     refine wpList_nil ?_
     refine exit_then ?_
     refine wp_ret ?_
     refine ret_cell_tmp Try.results10 hr Try.underlying27 rfl size27 (later e_w52 s2) e_w ?_
     first | (rw [hrd]; exact ⟨_, _, rfl, ⟨_, rfl, ownR_nil⟩, s3⟩) | (rw [hrd]; exact ⟨_, _, rfl, ⟨_, rfl, OwnR.mono (OwnRA.own (later e_w52 gT)) hB⟩, s3⟩)

end Go.Proofs.Ytdbjpfjnambenaa
