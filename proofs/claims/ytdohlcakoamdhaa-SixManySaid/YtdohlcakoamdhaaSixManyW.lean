import Derived.Test.YtdohlcakoamdhaaA09
import Derived.Test.YtdohlcakoamdhaaC09g
import Derived.Test.YtdohlcakoamdhaaC09d
import Derived.Test.YtdohlcakoamdhaaI
namespace Go.Proofs.Ytdohlcakoamdhaa
open Go.RowKit
set_option linter.unusedVariables false
set_option maxRecDepth 4000
def D_law_SixMany_0 : List Tmp := [9, 10, 11, 32, 33, 34, 35, 36, 37, 38, 39, 40, 41, 42, 43, 44, 45, 46, 47, 48, 49, 50, 51]
def D_law_SixMany_1 : List Tmp := [43, 44, 45, 46]
def D_law_SixMany_2 : List Tmp := [12, 52, 53, 54, 55, 56, 57, 58, 59, 60]
set_option maxHeartbeats 1000000 in
theorem law_SixMany {x0 x1 x2 x3 : Value} {w : World} {H : SixL} {l : List ExtL} {q : UInt8} {z : Int} (h0 : (Is (SixV H)) x0 w) (h1 : (Rw extR l) x1 w) (h2 : (ByteIs q) x2 w) (h3 : (Is (.int .u8 z)) x3 w) (hH : SixOk H) (hx9 : ∀ x ∈ l, ExtOk x) (hz : 0 ≤ z ∧ z ≤ 255) :
    Calls Try.prog 7 #[x0, x1, x2, x3] w (Ret (Is (.bool true)) w) := by
 have hs16 := hH.1
 have hd16 := hH.2
 obtain ⟨K, hK, hKl⟩ := tmod_lt (a := z) (n := 8) hz.1 (by omega)
 refine enter Try.func7 rfl Try.ntmps7 (k := 4) rfl (by decide) (fun a0 hr hargs => ?_)
 have s0 := sarg h0 (hargs 0 (by decide))
 have s1 := sarg h1 (hargs 1 (by decide))
 have s2 := sarg h2 (hargs 2 (by decide))
 have s3 := sarg h3 (hargs 3 (by decide))
 clear hargs
 refine wp_seq ?_
 refine wp_reg 98 [[(0, none)], []] [?b1_0, ?b1_1] mixed (by kernel_rfl) (by kernel_rfl) hr ?t1 ?o1 ?_
 case o1 =>
  refine oc0 (fun A W hx hf => ?_) ?_
  exact ok_boxS (sixS2 H) [1, 1, 1, 1, 1, 1, 1, 16, 1, 16] (Is.conv (o1 s0 hx (r0 hf)) (show _ = Value.agg (sixS2 H).flatten.toArray from by rw [six_seg]; rfl)) (by exact sixS2_lens hH) hx.size
  refine oc0 (fun A W hx hf => ?_) ?_
  exact ok_assignc
  exact OpsOk.nil
 case t1 => exact inferInstance
 clear hr; intro a2 w2 x hr hd hs
 revert s3; revert s2; revert s1; refine kp3 hs rfl ?_; intro s1 s2 s3
 clear s0
 have s4 := fa ?b1_0 a2 w2 4 (hd 0 4 rfl)
 obtain ⟨g2_4, q2_4⟩ := PxN.at s4; clear s4; have n2_4 := PxS.lt q2_4
 have s4 := q2_4; clear q2_4
 have e_w := x
 clear hd hs x
 refine exit_then ?_
 refine wp_seq ?_
 refine wp_seq ?_
 refine wp_reg 98 [[], [(19, some 0)], [(20, some 1)], [(4, none), (21, some 2)], [(22, some 3), (21, some 2)], [(23, some 4), (21, some 2)], [(21, some 2), (24, some 5)], [(25, some 6)], [(1, none), (26, some 7)], [(27, some 8), (26, some 7)], [(28, some 9), (26, some 7)], [(26, some 7), (29, some 10)]] [?b3_0, ?b3_1, ?b3_1, ?b3_3, ?b3_4, ?b3_5, ?b3_6, ?b3_6, ?b3_8, ?b3_9, ?b3_10, ?b3_11] mixed (by kernel_rfl) (by kernel_rfl) hr ?t3 ?o3 ?_
 case o3 =>
  refine oc0 (fun A W hx hf => ?_) ?_
  exact ok_call0 body9 (c_awake09 )
  refine oc0 (fun A W hx hf => ?_) ?_
  exact ok_not (q0 ?b3_0 A W 19 hf)
  refine oc0 (fun A W hx hf => ?_) ?_
  exact ok_move (q0 ?b3_1 A W 20 hf)
  refine ocg 21 ?_ (fun A W hx hf => ?_) ?_
  rfl
  exact gd_f (q1 ?b3_1 A W 21 hf) (fun hc => ok_loadAggS 10 Try.underlying28 rfl size28 (o1 s4 hx (r0 hf)) rfl)
  refine ocg 21 ?_ (fun A W hx hf => ?_) ?_
  rfl
  exact gd_f (q1 ?b3_1 A W 21 hf) (fun hc => ok_call1 body13 (c_r9Right (show Is (SixV H) _ _ from Is.conv (G.get (q0 ?b3_3 A W 22 hf) hc) six_all) (by exact hH)))
  refine ocg 21 ?_ (fun A W hx hf => ?_) ?_
  rfl
  exact gd_f (q1 ?b3_1 A W 21 hf) (fun hc => ok_not (G.get (q0 ?b3_4 A W 23 hf) hc))
  refine oc0 (fun A W hx hf => ?_) ?_
  exact ok_or (q0 ?b3_1 A W 21 hf) (q1 ?b3_5 A W 24 hf)
  refine oc0 (fun A W hx hf => ?_) ?_
  exact ok_move (q0 ?b3_6 A W 25 hf)
  refine ocg 26 ?_ (fun A W hx hf => ?_) ?_
  rfl
  exact gd_f (q1 ?b3_6 A W 26 hf) (fun hc => ok_movE (a0 := a2) (r0 hf))
  refine ocg 26 ?_ (fun A W hx hf => ?_) ?_
  rfl
  exact gd_f (q1 ?b3_6 A W 26 hf) (fun hc => ok_len_rw Try.underlying40 (p2 s1 e_w hx (G.get (q0 ?b3_8 A W 27 hf) hc)))
  refine ocg 26 ?_ (fun A W hx hf => ?_) ?_
  rfl
  exact gd_f (q1 ?b3_6 A W 26 hf) (fun hc => ok_gtr (G.get (q0 ?b3_9 A W 28 hf) hc) (ec A (.int .i64 8)))
  refine oc0 (fun A W hx hf => ?_) ?_
  exact ok_or (q0 ?b3_6 A W 26 hf) (q1 ?b3_10 A W 29 hf)
  exact OpsOk.nil
 case t3 => exact inferInstance
 clear hr; intro a4 w4 x hr hd hs
 revert s4; revert s3; revert s2; revert s1; refine kp4 hs rfl ?_; intro s1 s2 s3 s4
 have s30 := fa ?b3_11 a4 w4 30 (hd 11 30 rfl)
 replace e_w := e_w.trans x
 have e_w2 := x
 clear hd hs x
 refine exit_then ?_
 refine wp_cond_split (show _ = _ from s30) (fun hg => ?_) (fun hg => ?_)
 · skip
   skip
   refine wp_seq ?_
   refine wp_reg 98 [[], [(31, some 0)]] [?b6_0, ?b6_0] mixed (by kernel_rfl) (by kernel_rfl) hr ?t6 ?o6 ?_
   case o6 =>
    refine oc0 (fun A W hx hf => ?_) ?_
    exact ok_call0 body9 (c_awake09 )
    refine oc0 (fun A W hx hf => ?_) ?_
    exact ok_assign (q0 ?b6_0 A W 31 hf)
    exact OpsOk.nil
   case t6 => exact inferInstance
   clear hr; intro a7 w7 x hr hd hs
   clear s1 s2 s3 s4 s30
   have s8 := fa ?b6_0 a7 w7 8 (hd 1 8 rfl)
   replace e_w := e_w.trans x
   clear e_w2
   clear hd hs x
   refine exit_then ?_
   refine wp_ret ?_
   refine then_ret ?_
   refine ret_tmp Try.results7 hr e_w ?_
   first | with_reducible exact s8 | exact Is.bool s8 (by simp; done)
 · skip
   obtain ⟨hr9, hl8⟩ := many_guard hg
   refine wp_skip ?_
   refine exit_then ?_
   refine wp_seq ?_
   refine wp_reg 98 [[]] [?b8_0] mixed (by kernel_rfl) (by kernel_rfl) hr ?t8 ?o8 ?_
   case o8 =>
    refine oc0 (fun A W hx hf => ?_) ?_
    exact ok_assignv (OwnRA 0 w.heap.size 43 extR []) (fun _ => ownRA_nil)
    exact OpsOk.nil
   case t8 => exact inferInstance
   clear hr; intro a9 w9 x hr hd hs
   revert s4; revert s3; revert s2; revert s1; refine kp4 hs rfl ?_; intro s1 s2 s3 s4
   clear s30
   have s9 := fa ?b8_0 a9 w9 9 (hd 0 9 rfl)
   replace e_w := e_w.trans x
   replace e_w2 := e_w2.trans x
   clear hd hs x
   refine exit_then ?_
   refine wp_seq ?_
   refine wp_seq ?_
   refine wp_reg 98 [[]] [?b10_0] mixed (by kernel_rfl) (by kernel_rfl) hr ?t10 ?o10 ?_
   case o10 =>
    refine oc0 (fun A W hx hf => ?_) ?_
    exact ok_assignc
    exact OpsOk.nil
   case t10 => exact inferInstance
   clear hr; intro a11 w11 x hr hd hs
   revert s9; revert s4; revert s3; revert s2; revert s1; refine kp5 hs rfl ?_; intro s1 s2 s3 s4 s9
   have s10 := fa ?b10_0 a11 w11 10 (hd 0 10 rfl)
   replace e_w := e_w.trans x
   replace e_w2 := e_w2.trans x
   have e_w9 := x
   clear hd hs x
   refine exit_then ?_
   refine wp_block ?_
   refine wp_loop_inv (fun n A W => ∃ (i β : Nat), n = 8 - i ∧ Fr 98 A ∧ Same D_law_SixMany_0 a11 A ∧ Ext w W ∧ (i ≤ 8) ∧ (g2_4 ≠ β) ∧ (PxS g2_4 w.heap.size [1, 1, 1, 1, 1, 1, 1, 16, 1, 16] (sixS2 H) 0) (A.eval (.tmp 4)) W ∧ (OwnRA β w.heap.size 43 extR (many8 l i)) (A.eval (.tmp 9)) W ∧ (Is (.int .i64 (i : Int))) (A.eval (.tmp 10)) W) ?start12 ?_
   case start12 =>
    refine ⟨_, 0, 0, rfl, hr, Same.rfl, e_w, (by first | assumption | omega), (by first | assumption | omega), ?_, ?_, ?_⟩
    · exact (later e_w2 s4)
    · exact (later e_w9 s9)
    · first | exact s10 | exact Is.int s10 (by first | omega | simp) | exact Is.bool s10 (by first | omega | simp)
   intro n12 a12 w12 hI
   clear e_w
   clear e_w2
   clear e_w9
   clear hr; obtain ⟨i, β, hn12, hr, hs, e_w, hi, ne4, u4, u9, u10⟩ := hI
   revert s3; revert s2; revert s1; refine kp3 hs rfl ?_; intro s1 s2 s3
   clear s4 s9 s10
   have s4 := u4; clear u4
   have s9 := u9; clear u9
   have s10 := u10; clear u10
   have m12 := hs; clear hs
   refine wp_seq ?_
   refine wp_seq ?_
   refine wp_reg 98 [[(10, none)], [(32, some 0)]] [?b13_0, ?b13_1] mixed (by kernel_rfl) (by kernel_rfl) hr ?t13 ?o13 ?_
   case o13 =>
    refine oc0 (fun A W hx hf => ?_) ?_
    exact ok_movE (a0 := a12) (r0 hf)
    refine oc0 (fun A W hx hf => ?_) ?_
    exact ok_lss (p1 s10 hx (q0 ?b13_0 A W 32 hf)) (ec A (.int .i64 8))
    exact OpsOk.nil
   case t13 => exact inferInstance
   clear hr; intro a14 w14 x hr hd hs
   revert s10; revert s9; revert s4; revert s3; revert s2; revert s1; refine kp6 hs rfl ?_; intro s1 s2 s3 s4 s9 s10
   have s33 := fa ?b13_1 a14 w14 33 (hd 1 33 rfl)
   replace e_w := e_w.trans x
   have e_w12 := x
   replace m12 := m12.tr hs rfl
   clear hd hs x
   refine exit_then ?_
   refine wp_cond_split (show _ = _ from s33) (fun hlt => ?_) (fun hlt => ?_)
   · skip
     have hlt : i < 8 := by simp at hlt; omega
     refine wp_skip ?_
     refine exit_then ?_
     refine wp_seq ?_
     refine wp_block ?_
     refine wp_seq ?_
     refine wp_reg_pre (l := [_, _, _, _]) (rest := [_]) 98 [[(10, none)], [(36, some 0)], [(37, some 1)], []] [?b16_0, ?b16_1, ?b16_2, ?b16_3] (by kernel_rfl) (by kernel_rfl) hr ?t16 ?o16 ?_
     case o16 =>
      refine oc0 (fun A W hx hf => ?_) ?_
      exact ok_movE (a0 := a14) (r0 hf)
      refine oc0 (fun A W hx hf => ?_) ?_
      exact ok_conv8 Try.underlying3 Try.underlying5 (p2 s10 e_w12 hx (q0 ?b16_0 A W 36 hf))
      refine oc0 (fun A W hx hf => ?_) ?_
      exact ok_buildS [(0, (.tmp 37))] [(0, _)] lay43 rfl (PartsC.one (q0 ?b16_1 A W 37 hf) rfl (PartsC.nil)) (by first | rfl | simp [adrCells, *])
      refine oc0 (fun A W hx hf => ?_) ?_
      exact ok_allocS [[.int .u8 0], [.int .u8 0], [.int .u16 0]] [1, 1, 1] zerov43 (by rfl) (by rfl) hx.size
      exact OpsOk.nil
     case t16 => exact inferInstance
     clear hr; intro a17 w17 x hr hd hs
     have z_w_w14 := e_w.size
     have z_w12_w14 := e_w12.size
     have l17_4 := PxS.lt (later e_w12 s4)
     have l17_9 := OwnRA.lt (later e_w12 s9)
     revert s10; revert s9; revert s4; revert s3; revert s2; revert s1; refine kp6 hs rfl ?_; intro s1 s2 s3 s4 s9 s10
     clear s33
     have s38 := fa ?b16_2 a17 w17 38 (hd 2 38 rfl)
     have s11 := fa ?b16_3 a17 w17 11 (hd 3 11 rfl)
     obtain ⟨g17_11, q17_11⟩ := PxN.at s11; clear s11; have n17_11 := PxS.lt q17_11
     replace q17_11 := PxS.mono q17_11 e_w.size
     have s11 := q17_11; clear q17_11
     replace e_w := e_w.trans x
     replace e_w12 := e_w12.trans x
     replace m12 := m12.tr hs rfl
     clear hd hs x
     have z18 := PxS.lt s11
     have l18 := (show (g17_11 = 0 ∨ w.heap.size < g17_11) ∧ True from ⟨by omega, trivial⟩)
     have l18_4 := PxS.lt (later e_w12 s4)
     have l18_9 := OwnRA.lt (later e_w12 s9)
     refine wl_storeSm [[byteV (b8 (i : Int))], [byteV (b8 0)], [.int .u16 0]] hr size43 s11 (Is.conv s38 rfl) (by rfl) (by intro u hu; simp at hu; rcases hu with rfl | rfl | rfl <;> rfl) rfl ?_; clear hr; intro a18 w18 hc hu hr hs
     have hb : Below w.heap.size w17 w18 := hc.below e_w.size l18.1
     revert s10; revert s9; revert s4; revert s3; revert s2; revert s1; refine kp6 hs rfl ?_; intro s1 s2 s3 s4 s9 s10
     revert s11; refine kp1 hs rfl ?_; intro s11
     clear s38
     replace s4 := PxS.other (later e_w12 s4) hc (by omega)
     replace s9 := OwnRA.other (later e_w12 s9) hc (by omega)
     replace s11 := hu _ _ _ s11
     try simp only [List.set_cons_zero, List.set_cons_succ] at s11
     replace e_w := e_w.below (Nat.le_refl _) hb
     clear e_w12
     replace s10 := anyw (w2 := w18) s10
     replace m12 := m12.tr hs rfl
     clear hu hs hc hb
     refine wpList_nil ?_
     refine exit_then ?_
     refine wp_seq ?_
     refine wp_seq ?_
     refine wp_reg 98 [[(10, none)], [(1, none)], [(40, some 1)], [(39, some 0), (41, some 2)]] [?b19_0, ?b19_1, ?b19_2, ?b19_3] mixed (by kernel_rfl) (by kernel_rfl) hr ?t19 ?o19 ?_
     case o19 =>
      refine oc0 (fun A W hx hf => ?_) ?_
      exact ok_movE (a0 := a18) (r0 hf)
      refine oc0 (fun A W hx hf => ?_) ?_
      exact ok_movE (a0 := a18) (r0 hf)
      refine oc0 (fun A W hx hf => ?_) ?_
      exact ok_len_rw Try.underlying40 (p2 s1 e_w hx (q0 ?b19_1 A W 40 hf))
      refine oc0 (fun A W hx hf => ?_) ?_
      exact ok_lss (p1 s10 hx (q0 ?b19_0 A W 39 hf)) (q1 ?b19_2 A W 41 hf)
      exact OpsOk.nil
     case t19 => exact inferInstance
     clear hr; intro a20 w20 x hr hd hs
     revert s11; revert s9; revert s4; revert s3; revert s2; revert s1; refine kp6 hs rfl ?_; intro s1 s2 s3 s4 s9 s11
     revert s10; refine kp1 hs rfl ?_; intro s10
     have s42 := fa ?b19_3 a20 w20 42 (hd 3 42 rfl)
     replace e_w := e_w.trans x
     have e_w18 := x
     replace m12 := m12.tr hs rfl
     clear hd hs x
     refine exit_then ?_
     refine wp_cut (fun A W => Fr 98 A ∧ Same D_law_SixMany_1 a20 A ∧ Ext w W ∧ (PxS g2_4 w.heap.size [1, 1, 1, 1, 1, 1, 1, 16, 1, 16] (sixS2 H) 0) (A.eval (.tmp 4)) W ∧ (OwnRA β w.heap.size 43 extR (many8 l i)) (A.eval (.tmp 9)) W ∧ (PxS g17_11 w.heap.size [1, 1, 1] [[byteV (x8 l i).kind], [byteV (x8 l i).long], [.int .u16 (x8 l i).part]] 0) (A.eval (.tmp 11)) W) ?cut21 ?_
     case cut21 =>
      have m21 : Same D_law_SixMany_1 a20 a20 := Same.rfl
      refine wp_cond_split (show _ = _ from s42) (fun hil => ?_) (fun hil => ?_)
      · skip
        have hil : i < l.length := by simp at hil; omega
        refine wp_reg_pre (l := [_, _, _, _]) (rest := [_]) 98 [[(1, none)], [(10, none)], [(43, some 0), (44, some 1)], [(45, some 2)]] [?b23_0, ?b23_1, ?b23_2, ?b23_3] (by kernel_rfl) (by kernel_rfl) hr ?t23 ?o23 ?_
        case o23 =>
         refine oc0 (fun A W hx hf => ?_) ?_
         exact ok_movE (a0 := a20) (r0 hf)
         refine oc0 (fun A W hx hf => ?_) ?_
         exact ok_movE (a0 := a20) (r0 hf)
         refine oc0 (fun A W hx hf => ?_) ?_
         exact ok_index_rw (_) Try.underlying40 size43 (p2 s1 e_w hx (q0 ?b23_0 A W 43 hf)) (p2 s10 e_w18 hx (q1 ?b23_1 A W 44 hf)) (by exact hil)
         refine oc0 (fun A W hx hf => ?_) ?_
         exact ok_loadAll Try.underlying43 rfl size43 (q0 ?b23_2 A W 45 hf) (by rfl)
         exact OpsOk.nil
        case t23 => exact inferInstance
        clear hr; intro a24 w24 x hr hd hs
        revert s11; revert s9; revert s4; revert s3; revert s2; revert s1; refine kp6 hs rfl ?_; intro s1 s2 s3 s4 s9 s11
        revert s10; refine kp1 hs rfl ?_; intro s10
        clear s42
        have s46 := fa ?b23_3 a24 w24 46 (hd 3 46 rfl)
        replace e_w := e_w.trans x
        replace e_w18 := e_w18.trans x
        replace m12 := m12.tr hs rfl
        replace m21 := m21.tr hs rfl
        clear hd hs x
        have z25 := PxS.lt (later e_w18 s11)
        have l25 := (show (g17_11 = 0 ∨ w.heap.size < g17_11) ∧ True from ⟨by omega, trivial⟩)
        have l25_4 := PxS.lt (later e_w18 s4)
        have l25_9 := OwnRA.lt (later e_w18 s9)
        refine wl_storeSm [[byteV (l[i]'hil).kind], [byteV (l[i]'hil).long], [.int .u16 (l[i]'hil).part]] hr size43 (later e_w18 s11) (Is.conv s46 rfl) (by rfl) (by intro u hu; simp at hu; rcases hu with rfl | rfl | rfl <;> rfl) rfl ?_; clear hr; intro a25 w25 hc hu hr hs
        have hb : Below w.heap.size w24 w25 := hc.below e_w.size l25.1
        revert s11; revert s9; revert s4; revert s3; revert s2; revert s1; refine kp6 hs rfl ?_; intro s1 s2 s3 s4 s9 s11
        revert s10; refine kp1 hs rfl ?_; intro s10
        clear s46
        replace s4 := PxS.other (later e_w18 s4) hc (by omega)
        replace s9 := OwnRA.other (later e_w18 s9) hc (by omega)
        replace s11 := hu _ _ _ (later e_w18 s11)
        try simp only [List.set_cons_zero, List.set_cons_succ] at s11
        replace e_w := e_w.below (Nat.le_refl _) hb
        clear e_w18
        replace s10 := anyw (w2 := w25) s10
        replace m12 := m12.tr hs rfl
        replace m21 := m21.tr hs rfl
        clear hu hs hc hb
        refine wpList_nil ?_
        refine exit_then ?_
        refine ⟨hr, m21, e_w, ?_, ?_, ?_⟩
        · exact s4
        · exact s9
        · first | exact PxS.cast s11 (by rw [x8_yes hil]) | exact PxS.cast s11 (by rw [x8_no hil])
      · skip
        have hil : ¬ i < l.length := by simp at hil; omega
        refine wp_skip ?_
        refine exit_then ?_
        refine ⟨hr, m21, e_w, ?_, ?_, ?_⟩
        · exact (later e_w18 s4)
        · exact (later e_w18 s9)
        · first | exact PxS.cast (later e_w18 s11) (by rw [x8_yes hil]) | exact PxS.cast (later e_w18 s11) (by rw [x8_no hil])
     intro a21 w21 hI
     clear e_w
     clear e_w18
     clear hr; obtain ⟨hr, hs, e_w, u4, u9, u11⟩ := hI
     revert s10; revert s3; revert s2; revert s1; refine kp4 hs rfl ?_; intro s1 s2 s3 s10
     clear s4 s9 s11 s42
     have s4 := u4; clear u4
     have s9 := u9; clear u9
     have s11 := u11; clear u11
     replace s10 := anyw (w2 := w21) s10
     replace m12 := m12.tr hs rfl
     clear hs
     refine wp_seq ?_
     refine wp_reg_pre (l := [_]) (rest := [_]) 98 [[(11, none)]] [?b26_0] (by kernel_rfl) (by kernel_rfl) hr ?t26 ?o26 ?_
     case o26 =>
      refine oc0 (fun A W hx hf => ?_) ?_
      exact ok_fieldS 2 Try.underlying43 (k := 2) rfl size41 rfl (o1 s11 hx (r0 hf)) rfl
      exact OpsOk.nil
     case t26 => exact inferInstance
     clear hr; intro a27 w27 x hr hd hs
     revert s11; revert s9; revert s4; revert s3; revert s2; revert s1; refine kp6 hs rfl ?_; intro s1 s2 s3 s4 s9 s11
     revert s10; refine kp1 hs rfl ?_; intro s10
     have s47 := fa ?b26_0 a27 w27 47 (hd 0 47 rfl)
     replace e_w := e_w.trans x
     have e_w21 := x
     replace m12 := m12.tr hs rfl
     clear hd hs x
     have z28 := PxS.lt s47
     have l28 := (show (g17_11 = 0 ∨ w.heap.size < g17_11) ∧ True from ⟨by omega, trivial⟩)
     have l28_4 := PxS.lt (later e_w21 s4)
     have l28_9 := OwnRA.lt (later e_w21 s9)
     refine wl_storeS hr size41 s47 (ec a27 (.int .u16 0)) (by rfl) rfl ?_; clear hr; intro a28 w28 hc hu hr hs
     have hb : Below w.heap.size w27 w28 := hc.below e_w.size l28.1
     revert s11; revert s9; revert s4; revert s3; revert s2; revert s1; refine kp6 hs rfl ?_; intro s1 s2 s3 s4 s9 s11
     revert s10; refine kp1 hs rfl ?_; intro s10
     clear s47
     replace s4 := PxS.other (later e_w21 s4) hc (by omega)
     replace s9 := OwnRA.other (later e_w21 s9) hc (by omega)
     replace s11 := hu _ _ _ (later e_w21 s11)
     try simp only [List.set_cons_zero, List.set_cons_succ] at s11
     replace e_w := e_w.below (Nat.le_refl _) hb
     clear e_w21
     replace s10 := anyw (w2 := w28) s10
     replace m12 := m12.tr hs rfl
     clear hu hs hc hb
     refine wpList_nil ?_
     refine exit_then ?_
     refine wp_reg_pre (l := [_, _, _]) (rest := [_, _]) 98 [[(9, none)], [(11, none)], [(49, some 1)]] [?b29_0, ?b29_1, ?b29_2] (by kernel_rfl) (by kernel_rfl) hr ?t29 ?o29 ?_
     case o29 =>
      refine oc0 (fun A W hx hf => ?_) ?_
      exact ok_movE (a0 := a28) (r0 hf)
      refine oc0 (fun A W hx hf => ?_) ?_
      exact ok_loadAggS 3 Try.underlying43 rfl size43 (o1 s11 hx (r0 hf)) rfl
      refine oc0 (fun A W hx hf => ?_) ?_
      exact ok_buildRw (R := extR) [(.tmp 49)] [own0 (x8 l i)] Try.underlying40 size43 zerom43 rfl rfl rfl (by decide) (PartsR.cons (Is.conv (q0 ?b29_1 A W 49 hf) rfl) (PartsR.nil)) hx.size
      exact OpsOk.nil
     case t29 => exact inferInstance
     clear hr; intro a30 w30 x hr hd hs
     have z_w_w28 := e_w.size
     have l30_4 := PxS.lt s4
     have l30_9 := OwnRA.lt s9
     have l30_11 := PxS.lt s11
     have u48 := mv s9 (fa ?b29_0 a30 w30 48 (hd 0 48 rfl))
     revert s10; revert s9; revert s4; revert s3; revert s2; revert s1; refine kp6 hs rfl ?_; intro s1 s2 s3 s4 s9 s10
     clear s11
     have s48 := u48; clear u48
     have s50 := fa ?b29_2 a30 w30 50 (hd 2 50 rfl)
     obtain ⟨g30_50, q30_50⟩ := OwnR.at s50; clear s50; have n30_50 := OwnRA.lt q30_50
     replace q30_50 := OwnRA.mono q30_50 e_w.size
     have s50 := q30_50; clear q30_50
     replace e_w := e_w.trans x
     have e_w28 := x
     replace m12 := m12.tr hs rfl
     clear hd hs x
     have l31 := OwnRA.lt (later e_w28 s48)
     have l31_4 := PxS.lt (later e_w28 s4)
     refine wl_append_rwA hr (by decide) Try.underlying40 infom43 rfl (later e_w28 s48) (OwnRA.rw s50) e_w.size (by first | (simp [many8_len]; done) | (simp [many8_len]; omega)) ?_; clear hr; intro g31 a31 w31 hg31 hc hr hd hs
     have hb := hc.below e_w.size l31.1
     revert s10; revert s4; revert s3; revert s2; revert s1; refine kp5 hs rfl ?_; intro s1 s2 s3 s4 s10
     clear s9 s48 s50
     replace s4 := PxS.other (later e_w28 s4) hc (by omega)
     have s51 := hd
     replace e_w := e_w.below (Nat.le_refl _) hb
     clear e_w28
     replace s10 := anyw (w2 := w31) s10
     replace m12 := m12.tr hs rfl
     clear hd hs hb hc
     refine wl_op hr (ok_assign s51) inferInstance ?_; clear hr; intro a32 w32 x hr hd hs
     revert s10; revert s4; revert s3; revert s2; revert s1; refine kp5 hs rfl ?_; intro s1 s2 s3 s4 s10
     clear s51
     have s9 := hd 9 rfl (by decide)
     replace e_w := e_w.trans x
     have e_w31 := x
     replace m12 := m12.tr hs rfl
     clear hd hs x
     refine wpList_nil ?_
     refine blk_normal ?_
     refine exit_then ?_
     refine wp_reg 98 [[(10, none)], [(34, some 0)], [(35, some 1)]] [?b33_0, ?b33_1, ?b33_1] mixed (by kernel_rfl) (by kernel_rfl) hr ?t33 ?o33 ?_
     case o33 =>
      refine oc0 (fun A W hx hf => ?_) ?_
      exact ok_movE (a0 := a32) (r0 hf)
      refine oc0 (fun A W hx hf => ?_) ?_
      exact ok_addI (p2 s10 e_w31 hx (q0 ?b33_0 A W 34 hf)) (ec A (.int .i64 1)) (by omega)
      refine oc0 (fun A W hx hf => ?_) ?_
      exact ok_assign (q0 ?b33_1 A W 35 hf)
      exact OpsOk.nil
     case t33 => exact inferInstance
     clear hr; intro a34 w34 x hr hd hs
     revert s9; revert s4; revert s3; revert s2; revert s1; refine kp5 hs rfl ?_; intro s1 s2 s3 s4 s9
     clear s10
     have s10 := fa ?b33_1 a34 w34 10 (hd 2 10 rfl)
     replace e_w := e_w.trans x
     replace e_w31 := e_w31.trans x
     have e_w32 := x
     replace m12 := m12.tr hs rfl
     clear hd hs x
     refine exit_then ?_
     refine ⟨(fun (i β : Nat) => 8 - i) (i + 1) (0), ?_, ?_⟩
     · (try dsimp only); omega
     refine ⟨i + 1, g31, rfl, hr, m12, e_w, (by first | assumption | omega), (by first | assumption | omega), ?_, ?_, ?_⟩
     · exact (later e_w31 s4)
     · exact OwnRA.cast (later e_w32 s9) (many8_step l i).symm
     · first | exact s10 | exact Is.int s10 (by first | omega | simp) | exact Is.bool s10 (by first | omega | simp)
   · skip
     have hi8 : i = 8 := by simp at hlt; omega
     subst hi8
     refine wp_exit ?_
     refine then_exit ?_
     refine then_exit ?_
     refine blk_exit ?_
     refine exit_then ?_
     refine wp_seq ?_
     refine wp_cut (fun A W => ∃ (δ : Nat), Fr 98 A ∧ Same D_law_SixMany_2 a14 A ∧ Ext w W ∧ (PxS g2_4 w.heap.size [1, 1, 1, 1, 1, 1, 1, 16, 1, 16] (sixS2 H) 0) (A.eval (.tmp 4)) W ∧ (OwnRA β w.heap.size 43 extR (many8 l 8)) (A.eval (.tmp 9)) W ∧ (OwnBA δ w.heap.size 5 (wholeE H (many8 l 8 ++ [ninth q]) [])) (A.eval (.tmp 12)) W) ?cut35 ?_
     case cut35 =>
      have m35 : Same D_law_SixMany_2 a14 a14 := Same.rfl
      refine wp_anyH_start (fun W => Below w.heap.size w W ∧ BlkS g2_4 [1, 1, 1, 1, 1, 1, 1, 16, 1, 16] _ W) mixed (fun w' x => ⟨(e_w.trans x), PxS.blkS (later (e_w12.trans x) s4)⟩) (fun w36 x _ => ?_)
      show wpAnyH _ _ _ _ _ 10 _ _ _
      replace e_w := e_w.trans x
      replace e_w12 := e_w12.trans x
      have e_w14 := x
      clear x
      refine anyH_op (i := 0) hr rfl (by decide) (by kernel_rfl) (fun _ _ _ _ h => h) (yh_loadAgS 10 Try.underlying28 rfl size28 (later e_w12 s4) (fun W hW => hW.2) rfl) ⟨e_w, PxS.blkS (later e_w12 s4)⟩ ?_; clear hr; intro a37 hr hd hs
      revert s9; revert s4; revert s3; revert s2; refine kp4 hs rfl ?_; intro s2 s3 s4 s9
      clear s1 s10 s33
      have s52 := hd
      replace m35 := m35.tr hs rfl
      clear hd hs
      refine anyH_op (i := 2) hr rfl (by decide) (by kernel_rfl) (fun _ _ _ _ h => h) (yh (py_of (ok_move (later e_w12 s9)) (pv_move))) ⟨e_w, PxS.blkS (later e_w12 s4)⟩ ?_; clear hr; intro a38 hr hd hs
      revert s52; revert s9; revert s4; revert s3; revert s2; refine kp5 hs rfl ?_; intro s2 s3 s4 s9 s52
      have s54 := hd
      replace m35 := m35.tr hs rfl
      clear hd hs
      refine anyH_op (i := 4) hr rfl (by decide) (by kernel_rfl) (fun _ _ _ _ h => h) (yh (py_of (ok_move (later e_w s2)) (pv_move))) ⟨e_w, PxS.blkS (later e_w12 s4)⟩ ?_; clear hr; intro a39 hr hd hs
      revert s54; revert s52; revert s9; revert s4; revert s3; refine kp5 hs rfl ?_; intro s3 s4 s9 s52 s54
      clear s2
      have s56 := hd
      replace m35 := m35.tr hs rfl
      clear hd hs
      refine anyH_op (i := 5) hr rfl (by decide) (by kernel_rfl) (fun _ _ _ _ h => h) (yh (py_of (ok_buildS [(0, (.tmp 56))] [(0, _)] lay43 rfl (PartsC.one s56 rfl (PartsC.nil)) (by first | rfl | simp [adrCells, *])) (pv_buildS [(0, (.tmp 56))] [(0, _)] lay43 rfl (PartsC.one s56 rfl (PartsC.nil)) (by first | rfl | simp [adrCells, *])))) ⟨e_w, PxS.blkS (later e_w12 s4)⟩ ?_; clear hr; intro a40 hr hd hs
      revert s54; revert s52; revert s9; revert s4; revert s3; refine kp5 hs rfl ?_; intro s3 s4 s9 s52 s54
      clear s56
      have s57 := hd
      replace m35 := m35.tr hs rfl
      clear hd hs
      refine anyH_br2 (i := 1) (j := 6) (by kernel_rfl) rfl rfl ?_ ?_
      · skip
        have l41_4 := PxS.lt (later e_w12 s4)
        have l41_9 := OwnRA.lt (later e_w12 s9)
        have l41_54 := OwnRA.lt s54
        refine wl_op hr (ok_buildRw (R := extR) [] [] Try.underlying40 size43 zerom43 rfl rfl rfl (by decide) (PartsR.nil) (Nat.le_refl _)) inferInstance ?_; clear hr; intro a41 w41 x hr hd hs
        revert s57; revert s54; revert s52; revert s9; revert s4; revert s3; refine kp6 hs rfl ?_; intro s3 s4 s9 s52 s54 s57
        have s53 := hd 53 rfl (by decide)
        obtain ⟨g41_53, q41_53⟩ := OwnR.at s53; clear s53; have n41_53 := OwnRA.lt q41_53
        replace q41_53 := OwnRA.mono q41_53 e_w.size
        have s53 := q41_53; clear q41_53
        replace e_w := e_w.trans x
        replace e_w12 := e_w12.trans x
        clear e_w14
        have e_w36 := x
        replace m35 := m35.tr hs rfl
        clear hd hs x
        refine qn_done ⟨e_w, PxS.blkS (later e_w12 s4)⟩ ?_
        refine anyH_br2 (i := 3) (j := 6) (by kernel_rfl) rfl rfl ?_ ?_
        · skip
          have l42 := OwnRA.lt s53
          have l42_4 := PxS.lt (later e_w12 s4)
          have l42_9 := OwnRA.lt (later e_w12 s9)
          refine wl_append_rwA hr (by decide) Try.underlying40 infom43 rfl s53 (OwnRA.rw (later e_w36 s54)) e_w.size (by first | (simp [many8_len]; done) | (simp [many8_len]; omega)) ?_; clear hr; intro g42 a42 w42 hg42 hc hr hd hs
          have hb := hc.below e_w.size l42.1
          revert s57; revert s52; revert s9; revert s4; revert s3; refine kp5 hs rfl ?_; intro s3 s4 s9 s52 s57
          clear s54 s53
          replace s4 := PxS.other (later e_w12 s4) hc (by omega)
          replace s9 := OwnRA.other (later e_w12 s9) hc (by omega)
          have s55 := hd
          replace e_w := e_w.below (Nat.le_refl _) hb
          clear e_w12
          clear e_w36
          replace s52 := anyw (w2 := w42) s52
          replace s57 := anyw (w2 := w42) s57
          replace m35 := m35.tr hs rfl
          clear hd hs hb hc
          refine qn_done ⟨e_w, PxS.blkS s4⟩ ?_
          refine anyH_br1 (i := 6) (by kernel_rfl) rfl ?_
          · skip
            have l43_4 := PxS.lt s4
            have l43_9 := OwnRA.lt s9
            have l43_55 := OwnRA.lt s55
            refine wl_op hr (ok_buildRw (R := extR) [(.tmp 57)] [ninth q] Try.underlying40 size43 zerom43 rfl rfl rfl (by decide) (PartsR.cons (Is.conv s57 rfl) (PartsR.nil)) (Nat.le_refl _)) inferInstance ?_; clear hr; intro a43 w43 x hr hd hs
            revert s52; revert s55; revert s9; revert s4; revert s3; refine kp5 hs rfl ?_; intro s3 s4 s9 s55 s52
            clear s57
            have s58 := hd 58 rfl (by decide)
            obtain ⟨g43_58, q43_58⟩ := OwnR.at s58; clear s58; have n43_58 := OwnRA.lt q43_58
            replace q43_58 := OwnRA.mono q43_58 e_w.size
            have s58 := q43_58; clear q43_58
            replace e_w := e_w.trans x
            have e_w42 := x
            replace m35 := m35.tr hs rfl
            clear hd hs x
            refine qn_done ⟨e_w, PxS.blkS (later e_w42 s4)⟩ ?_
            refine anyH_br1 (i := 7) (by kernel_rfl) rfl ?_
            · skip
              have l44 := OwnRA.lt (later e_w42 s55)
              have l44_4 := PxS.lt (later e_w42 s4)
              have l44_9 := OwnRA.lt (later e_w42 s9)
              refine wl_append_rwA hr (by decide) Try.underlying40 infom43 rfl (later e_w42 s55) (OwnRA.rw s58) e_w.size (by first | (simp [many8_len]; done) | (simp [many8_len]; omega)) ?_; clear hr; intro g44 a44 w44 hg44 hc hr hd hs
              have hb := hc.below e_w.size l44.1
              revert s52; revert s9; revert s4; revert s3; refine kp4 hs rfl ?_; intro s3 s4 s9 s52
              clear s55 s58
              replace s4 := PxS.other (later e_w42 s4) hc (by omega)
              replace s9 := OwnRA.other (later e_w42 s9) hc (by omega)
              have s59 := hd
              replace e_w := e_w.below (Nat.le_refl _) hb
              clear e_w42
              replace s52 := anyw (w2 := w44) s52
              replace m35 := m35.tr hs rfl
              clear hd hs hb hc
              refine qn_done ⟨e_w, PxS.blkS s4⟩ ?_
              refine anyH_br1 (i := 8) (by kernel_rfl) rfl ?_
              · skip
                have l45_4 := PxS.lt s4
                have l45_9 := OwnRA.lt s9
                have l45_59 := OwnRA.lt s59
                refine wl_op hr (ok_call3 body17 (c_whole9 (show Is (SixV H) _ _ from Is.conv s52 six_all) (OwnRA.rw s59) (show Bs [] (a44.eval (.const (.slice none 0 0))) _ from bs_nil) (by exact hH) (by exact hr9) (by exact many9_ok l q) (by simp [many8_len]) (by decide) (Nat.le_refl _))) inferInstance ?_; clear hr; intro a45 w45 x hr hd hs
                revert s9; revert s4; revert s3; refine kp3 hs rfl ?_; intro s3 s4 s9
                clear s59 s52
                have s60 := hd 60 rfl (by decide)
                obtain ⟨g45_60, q45_60⟩ := OwnB.at s60; clear s60; have n45_60 := OwnBA.lt q45_60
                replace q45_60 := OwnBA.mono q45_60 e_w.size
                have s60 := q45_60; clear q45_60
                replace e_w := e_w.trans x
                have e_w44 := x
                replace m35 := m35.tr hs rfl
                clear hd hs x
                refine qn_done ⟨e_w, PxS.blkS (later e_w44 s4)⟩ ?_
                refine anyH_op (i := 9) hr rfl (by decide) (by kernel_rfl) (fun _ _ _ _ h => h) (yh (py_of (ok_assign s60) (pv_assign))) ⟨e_w, PxS.blkS (later e_w44 s4)⟩ ?_; clear hr; intro a46 hr hd hs
                revert s9; revert s4; revert s3; refine kp3 hs rfl ?_; intro s3 s4 s9
                clear s60
                have s12 := hd
                replace m35 := m35.tr hs rfl
                clear hd hs
                refine anyH_done (by kernel_rfl) ?_
                refine exit_then ?_
                refine ⟨g45_60, hr, m35, e_w, ?_, ?_, ?_⟩
                · exact (later e_w44 s4)
                · exact (later e_w44 s9)
                · exact OwnBA.cast s12 (by simp)
        · skip
          have l47_4 := PxS.lt (later e_w12 s4)
          have l47_9 := OwnRA.lt (later e_w12 s9)
          have l47_54 := OwnRA.lt (later e_w36 s54)
          have l47_53 := OwnRA.lt s53
          refine wl_op hr (ok_buildRw (R := extR) [(.tmp 57)] [ninth q] Try.underlying40 size43 zerom43 rfl rfl rfl (by decide) (PartsR.cons (Is.conv (later e_w36 s57) rfl) (PartsR.nil)) (Nat.le_refl _)) inferInstance ?_; clear hr; intro a47 w47 x hr hd hs
          revert s53; revert s54; revert s52; revert s9; revert s4; revert s3; refine kp6 hs rfl ?_; intro s3 s4 s9 s52 s54 s53
          clear s57
          have s58 := hd 58 rfl (by decide)
          obtain ⟨g47_58, q47_58⟩ := OwnR.at s58; clear s58; have n47_58 := OwnRA.lt q47_58
          replace q47_58 := OwnRA.mono q47_58 e_w.size
          have s58 := q47_58; clear q47_58
          replace e_w := e_w.trans x
          replace e_w12 := e_w12.trans x
          replace e_w36 := e_w36.trans x
          have e_w41 := x
          replace m35 := m35.tr hs rfl
          clear hd hs x
          refine qn_done ⟨e_w, PxS.blkS (later e_w12 s4)⟩ ?_
          refine anyH_br1 (i := 3) (by kernel_rfl) rfl ?_
          · skip
            have l48 := OwnRA.lt (later e_w41 s53)
            have l48_4 := PxS.lt (later e_w12 s4)
            have l48_9 := OwnRA.lt (later e_w12 s9)
            have l48_58 := OwnRA.lt s58
            refine wl_append_rwA hr (by decide) Try.underlying40 infom43 rfl (later e_w41 s53) (OwnRA.rw (later e_w36 s54)) e_w.size (by first | (simp [many8_len]; done) | (simp [many8_len]; omega)) ?_; clear hr; intro g48 a48 w48 hg48 hc hr hd hs
            have hb := hc.below e_w.size l48.1
            revert s58; revert s52; revert s9; revert s4; revert s3; refine kp5 hs rfl ?_; intro s3 s4 s9 s52 s58
            clear s54 s53
            replace s4 := PxS.other (later e_w12 s4) hc (by omega)
            replace s9 := OwnRA.other (later e_w12 s9) hc (by omega)
            replace s58 := OwnRA.other s58 hc (by omega)
            have s55 := hd
            replace e_w := e_w.below (Nat.le_refl _) hb
            clear e_w12
            clear e_w36
            clear e_w41
            replace s52 := anyw (w2 := w48) s52
            replace m35 := m35.tr hs rfl
            clear hd hs hb hc
            refine qn_done ⟨e_w, PxS.blkS s4⟩ ?_
            refine anyH_br1 (i := 7) (by kernel_rfl) rfl ?_
            · skip
              have l49 := OwnRA.lt s55
              have l49_4 := PxS.lt s4
              have l49_9 := OwnRA.lt s9
              refine wl_append_rwA hr (by decide) Try.underlying40 infom43 rfl s55 (OwnRA.rw s58) e_w.size (by first | (simp [many8_len]; done) | (simp [many8_len]; omega)) ?_; clear hr; intro g49 a49 w49 hg49 hc hr hd hs
              have hb := hc.below e_w.size l49.1
              revert s52; revert s9; revert s4; revert s3; refine kp4 hs rfl ?_; intro s3 s4 s9 s52
              clear s58 s55
              replace s4 := PxS.other s4 hc (by omega)
              replace s9 := OwnRA.other s9 hc (by omega)
              have s59 := hd
              replace e_w := e_w.below (Nat.le_refl _) hb
              replace s52 := anyw (w2 := w49) s52
              replace m35 := m35.tr hs rfl
              clear hd hs hb hc
              refine qn_done ⟨e_w, PxS.blkS s4⟩ ?_
              refine anyH_br1 (i := 8) (by kernel_rfl) rfl ?_
              · skip
                have l50_4 := PxS.lt s4
                have l50_9 := OwnRA.lt s9
                have l50_59 := OwnRA.lt s59
                refine wl_op hr (ok_call3 body17 (c_whole9 (show Is (SixV H) _ _ from Is.conv s52 six_all) (OwnRA.rw s59) (show Bs [] (a49.eval (.const (.slice none 0 0))) _ from bs_nil) (by exact hH) (by exact hr9) (by exact many9_ok l q) (by simp [many8_len]) (by decide) (Nat.le_refl _))) inferInstance ?_; clear hr; intro a50 w50 x hr hd hs
                revert s9; revert s4; revert s3; refine kp3 hs rfl ?_; intro s3 s4 s9
                clear s59 s52
                have s60 := hd 60 rfl (by decide)
                obtain ⟨g50_60, q50_60⟩ := OwnB.at s60; clear s60; have n50_60 := OwnBA.lt q50_60
                replace q50_60 := OwnBA.mono q50_60 e_w.size
                have s60 := q50_60; clear q50_60
                replace e_w := e_w.trans x
                have e_w49 := x
                replace m35 := m35.tr hs rfl
                clear hd hs x
                refine qn_done ⟨e_w, PxS.blkS (later e_w49 s4)⟩ ?_
                refine anyH_op (i := 9) hr rfl (by decide) (by kernel_rfl) (fun _ _ _ _ h => h) (yh (py_of (ok_assign s60) (pv_assign))) ⟨e_w, PxS.blkS (later e_w49 s4)⟩ ?_; clear hr; intro a51 hr hd hs
                revert s9; revert s4; revert s3; refine kp3 hs rfl ?_; intro s3 s4 s9
                clear s60
                have s12 := hd
                replace m35 := m35.tr hs rfl
                clear hd hs
                refine anyH_done (by kernel_rfl) ?_
                refine exit_then ?_
                refine ⟨g50_60, hr, m35, e_w, ?_, ?_, ?_⟩
                · exact (later e_w49 s4)
                · exact (later e_w49 s9)
                · exact OwnBA.cast s12 (by simp)
      · skip
        have l52_4 := PxS.lt (later e_w12 s4)
        have l52_9 := OwnRA.lt (later e_w12 s9)
        have l52_54 := OwnRA.lt s54
        refine wl_op hr (ok_buildRw (R := extR) [(.tmp 57)] [ninth q] Try.underlying40 size43 zerom43 rfl rfl rfl (by decide) (PartsR.cons (Is.conv s57 rfl) (PartsR.nil)) (Nat.le_refl _)) inferInstance ?_; clear hr; intro a52 w52 x hr hd hs
        revert s54; revert s52; revert s9; revert s4; revert s3; refine kp5 hs rfl ?_; intro s3 s4 s9 s52 s54
        clear s57
        have s58 := hd 58 rfl (by decide)
        obtain ⟨g52_58, q52_58⟩ := OwnR.at s58; clear s58; have n52_58 := OwnRA.lt q52_58
        replace q52_58 := OwnRA.mono q52_58 e_w.size
        have s58 := q52_58; clear q52_58
        replace e_w := e_w.trans x
        replace e_w12 := e_w12.trans x
        clear e_w14
        have e_w36 := x
        replace m35 := m35.tr hs rfl
        clear hd hs x
        refine qn_done ⟨e_w, PxS.blkS (later e_w12 s4)⟩ ?_
        refine anyH_br1 (i := 1) (by kernel_rfl) rfl ?_
        · skip
          have l53_4 := PxS.lt (later e_w12 s4)
          have l53_9 := OwnRA.lt (later e_w12 s9)
          have l53_54 := OwnRA.lt (later e_w36 s54)
          have l53_58 := OwnRA.lt s58
          refine wl_op hr (ok_buildRw (R := extR) [] [] Try.underlying40 size43 zerom43 rfl rfl rfl (by decide) (PartsR.nil) (Nat.le_refl _)) inferInstance ?_; clear hr; intro a53 w53 x hr hd hs
          revert s58; revert s54; revert s52; revert s9; revert s4; revert s3; refine kp6 hs rfl ?_; intro s3 s4 s9 s52 s54 s58
          have s53 := hd 53 rfl (by decide)
          obtain ⟨g53_53, q53_53⟩ := OwnR.at s53; clear s53; have n53_53 := OwnRA.lt q53_53
          replace q53_53 := OwnRA.mono q53_53 e_w.size
          have s53 := q53_53; clear q53_53
          replace e_w := e_w.trans x
          replace e_w12 := e_w12.trans x
          replace e_w36 := e_w36.trans x
          have e_w52 := x
          replace m35 := m35.tr hs rfl
          clear hd hs x
          refine qn_done ⟨e_w, PxS.blkS (later e_w12 s4)⟩ ?_
          refine anyH_br1 (i := 3) (by kernel_rfl) rfl ?_
          · skip
            have l54 := OwnRA.lt s53
            have l54_4 := PxS.lt (later e_w12 s4)
            have l54_9 := OwnRA.lt (later e_w12 s9)
            have l54_58 := OwnRA.lt (later e_w52 s58)
            refine wl_append_rwA hr (by decide) Try.underlying40 infom43 rfl s53 (OwnRA.rw (later e_w36 s54)) e_w.size (by first | (simp [many8_len]; done) | (simp [many8_len]; omega)) ?_; clear hr; intro g54 a54 w54 hg54 hc hr hd hs
            have hb := hc.below e_w.size l54.1
            revert s58; revert s52; revert s9; revert s4; revert s3; refine kp5 hs rfl ?_; intro s3 s4 s9 s52 s58
            clear s54 s53
            replace s4 := PxS.other (later e_w12 s4) hc (by omega)
            replace s9 := OwnRA.other (later e_w12 s9) hc (by omega)
            replace s58 := OwnRA.other (later e_w52 s58) hc (by omega)
            have s55 := hd
            replace e_w := e_w.below (Nat.le_refl _) hb
            clear e_w12
            clear e_w36
            clear e_w52
            replace s52 := anyw (w2 := w54) s52
            replace m35 := m35.tr hs rfl
            clear hd hs hb hc
            refine qn_done ⟨e_w, PxS.blkS s4⟩ ?_
            refine anyH_br1 (i := 7) (by kernel_rfl) rfl ?_
            · skip
              have l55 := OwnRA.lt s55
              have l55_4 := PxS.lt s4
              have l55_9 := OwnRA.lt s9
              refine wl_append_rwA hr (by decide) Try.underlying40 infom43 rfl s55 (OwnRA.rw s58) e_w.size (by first | (simp [many8_len]; done) | (simp [many8_len]; omega)) ?_; clear hr; intro g55 a55 w55 hg55 hc hr hd hs
              have hb := hc.below e_w.size l55.1
              revert s52; revert s9; revert s4; revert s3; refine kp4 hs rfl ?_; intro s3 s4 s9 s52
              clear s58 s55
              replace s4 := PxS.other s4 hc (by omega)
              replace s9 := OwnRA.other s9 hc (by omega)
              have s59 := hd
              replace e_w := e_w.below (Nat.le_refl _) hb
              replace s52 := anyw (w2 := w55) s52
              replace m35 := m35.tr hs rfl
              clear hd hs hb hc
              refine qn_done ⟨e_w, PxS.blkS s4⟩ ?_
              refine anyH_br1 (i := 8) (by kernel_rfl) rfl ?_
              · skip
                have l56_4 := PxS.lt s4
                have l56_9 := OwnRA.lt s9
                have l56_59 := OwnRA.lt s59
                refine wl_op hr (ok_call3 body17 (c_whole9 (show Is (SixV H) _ _ from Is.conv s52 six_all) (OwnRA.rw s59) (show Bs [] (a55.eval (.const (.slice none 0 0))) _ from bs_nil) (by exact hH) (by exact hr9) (by exact many9_ok l q) (by simp [many8_len]) (by decide) (Nat.le_refl _))) inferInstance ?_; clear hr; intro a56 w56 x hr hd hs
                revert s9; revert s4; revert s3; refine kp3 hs rfl ?_; intro s3 s4 s9
                clear s59 s52
                have s60 := hd 60 rfl (by decide)
                obtain ⟨g56_60, q56_60⟩ := OwnB.at s60; clear s60; have n56_60 := OwnBA.lt q56_60
                replace q56_60 := OwnBA.mono q56_60 e_w.size
                have s60 := q56_60; clear q56_60
                replace e_w := e_w.trans x
                have e_w55 := x
                replace m35 := m35.tr hs rfl
                clear hd hs x
                refine qn_done ⟨e_w, PxS.blkS (later e_w55 s4)⟩ ?_
                refine anyH_op (i := 9) hr rfl (by decide) (by kernel_rfl) (fun _ _ _ _ h => h) (yh (py_of (ok_assign s60) (pv_assign))) ⟨e_w, PxS.blkS (later e_w55 s4)⟩ ?_; clear hr; intro a57 hr hd hs
                revert s9; revert s4; revert s3; refine kp3 hs rfl ?_; intro s3 s4 s9
                clear s60
                have s12 := hd
                replace m35 := m35.tr hs rfl
                clear hd hs
                refine anyH_done (by kernel_rfl) ?_
                refine exit_then ?_
                refine ⟨g56_60, hr, m35, e_w, ?_, ?_, ?_⟩
                · exact (later e_w55 s4)
                · exact (later e_w55 s9)
                · exact OwnBA.cast s12 (by simp)
     intro a35 w35 hI
     clear e_w
     clear e_w12
     clear hr; obtain ⟨δ, hr, hs, e_w, u4, u9, u12⟩ := hI
     revert s3; refine kp1 hs rfl ?_; intro s3
     clear s1 s2 s4 s9 s10 s33
     have s4 := u4; clear u4
     have s9 := u9; clear u9
     have s12 := u12; clear u12
     clear hs
     refine wp_seq ?_
     have hm8 := many8_len l 8
     have hwm := whole_many (x := ninth q) hH hr9 (many8_frag l 8) hm8 ⟨by show (0 : Int) ≤ 0; omega, by show (0 : Int) ≤ 65535; omega⟩
     refine wp_reg_pre (l := [_, _, _, _, _, _]) (rest := [_, _]) 98 [[(12, none)], [(62, some 0)], [(63, some 1)], [(61, some 2)], [(61, some 2)], []] [?b58_0, ?b58_1, ?b58_1, ?b58_3, ?b58_4, ?b58_5] (by kernel_rfl) (by kernel_rfl) hr ?t58 ?o58 ?_
     case o58 =>
      refine oc0 (fun A W hx hf => ?_) ?_
      exact ok_movE (a0 := a35) (r0 hf)
      refine oc0 (fun A W hx hf => ?_) ?_
      exact ok_call1 body10 (c_xRead (OwnBA.bs (p1 s12 hx (q0 ?b58_0 A W 62 hf))))
      refine oc0 (fun A W hx hf => ?_) ?_
      exact ok_move (q0 ?b58_1 A W 63 hf)
      refine oc0 (fun A W hx hf => ?_) ?_
      exact ok_ext0 (q0 ?b58_1 A W 61 hf)
      refine oc0 (fun A W hx hf => ?_) ?_
      exact ok_ext1 (q0 ?b58_1 A W 61 hf)
      refine oc0 (fun A W hx hf => ?_) ?_
      exact ok_allocS [(sixS six0).flatten] [40] zerov28 (by rfl) (by rfl) hx.size
      exact OpsOk.nil
     case t58 => exact inferInstance
     clear hr; intro a59 w59 x hr hd hs
     have z_w_w35 := e_w.size
     have l59_4 := PxS.lt s4
     have l59_9 := OwnRA.lt s9
     have l59_12 := OwnBA.lt s12
     revert s9; revert s4; revert s3; refine kp3 hs rfl ?_; intro s3 s4 s9
     clear s12
     have s64 := fa ?b58_3 a59 w59 64 (hd 3 64 rfl)
     have s65 := fa ?b58_4 a59 w59 65 (hd 4 65 rfl)
     have s13 := fa ?b58_5 a59 w59 13 (hd 5 13 rfl)
     obtain ⟨g59_13, q59_13⟩ := PxN.at s13; clear s13; have n59_13 := PxS.lt q59_13
     replace q59_13 := PxS.mono q59_13 e_w.size
     have s13 := q59_13; clear q59_13
     replace e_w := e_w.trans x
     have e_w35 := x
     clear hd hs x
     have z60 := PxS.lt s13
     have l60 := (show (g59_13 = 0 ∨ w.heap.size < g59_13) ∧ True from ⟨by omega, trivial⟩)
     have l60_4 := PxS.lt (later e_w35 s4)
     have l60_9 := OwnRA.lt (later e_w35 s9)
     refine wl_storeSn hr size28 s13 s64 (by exact six_len (sixRead_ok _)) (by exact six_one) rfl ?_; clear hr; intro a60 w60 hc hu hr hs
     have hb : Below w.heap.size w59 w60 := hc.below e_w.size l60.1
     revert s65; revert s9; revert s4; revert s3; refine kp4 hs rfl ?_; intro s3 s4 s9 s65
     clear s64 s13
     replace s4 := PxS.other (later e_w35 s4) hc (by omega)
     replace s9 := OwnRA.other (later e_w35 s9) hc (by omega)
     replace e_w := e_w.below (Nat.le_refl _) hb
     clear e_w35
     replace s65 := anyw (w2 := w60) s65
     clear hu hs hc hb
     refine wl_op hr (ok_assign s65) inferInstance ?_; clear hr; intro a61 w61 x hr hd hs
     revert s9; revert s4; revert s3; refine kp3 hs rfl ?_; intro s3 s4 s9
     clear s65
     have s14 := hd 14 rfl (by decide)
     replace e_w := e_w.trans x
     have e_w60 := x
     clear hd hs x
     refine wpList_nil ?_
     replace s14 := Is.int s14 (show _ = (4 : Int) from by rw [hwm])
     refine exit_then ?_
     refine wp_seq ?_
     refine wp_reg 98 [[(4, none)], [(9, none)], [(66, some 0), (67, some 1)], [(68, some 2)]] [?b62_0, ?b62_1, ?b62_2, ?b62_2] mixed (by kernel_rfl) (by kernel_rfl) hr ?t62 ?o62 ?_
     case o62 =>
      refine oc0 (fun A W hx hf => ?_) ?_
      exact ok_loadAggS 10 Try.underlying28 rfl size28 (o2 s4 e_w60 hx (r0 hf)) rfl
      refine oc0 (fun A W hx hf => ?_) ?_
      exact ok_movE (a0 := a61) (r0 hf)
      refine oc0 (fun A W hx hf => ?_) ?_
      exact ok_call3 body17 (c_whole9 (show Is (SixV H) _ _ from Is.conv (q0 ?b62_0 A W 66 hf) six_all) (OwnRA.rw (p2 s9 e_w60 hx (q1 ?b62_1 A W 67 hf))) (show Bs [] (A.eval (.const (.slice none 0 0))) _ from bs_nil) (by exact hH) (by exact hr9) (by exact many8_ok l 8) (by omega) (by decide) hx.size)
      refine oc0 (fun A W hx hf => ?_) ?_
      exact ok_assign (q0 ?b62_2 A W 68 hf)
      exact OpsOk.nil
     case t62 => exact inferInstance
     clear hr; intro a63 w63 x hr hd hs
     have z_w_w61 := e_w.size
     have z_w60_w61 := e_w60.size
     have l63_4 := PxS.lt (later e_w60 s4)
     have l63_9 := OwnRA.lt (later e_w60 s9)
     revert s14; revert s3; refine kp2 hs rfl ?_; intro s3 s14
     clear s4 s9
     have s15 := fa ?b62_2 a63 w63 15 (hd 3 15 rfl)
     obtain ⟨g63_15, q63_15⟩ := OwnB.at s15; clear s15; have n63_15 := OwnBA.lt q63_15
     replace q63_15 := OwnBA.mono q63_15 e_w.size
     have s15 := q63_15; clear q63_15
     replace e_w := e_w.trans x
     clear e_w60
     have e_w61 := x
     clear hd hs x
     refine exit_then ?_
     refine wp_seq ?_
     have hwl := wholeE_len hH (many8 l 8) []
     have hlb9 := lensE_bd (many8 l 8)
     have hwc := whole_cut (c := K + 1) hH hr9 (many8_frag l 8) hm8 (by omega) (by omega)
     rw [List.length_nil, Nat.add_zero] at hwl
     refine wp_reg 98 [[(15, none)], [(69, some 0)], [(70, some 1)], [(71, some 2)], [(3, none)], [(73, some 4)], [(74, some 5)], [(72, some 3), (75, some 6)], [(76, some 7)]] [?b64_0, ?b64_1, ?b64_2, ?b64_3, ?b64_4, ?b64_5, ?b64_6, ?b64_7, ?b64_7] mixed (by kernel_rfl) (by kernel_rfl) hr ?t64 ?o64 ?_
     case o64 =>
      refine oc0 (fun A W hx hf => ?_) ?_
      exact ok_movE (a0 := a63) (r0 hf)
      refine oc0 (fun A W hx hf => ?_) ?_
      exact ok_len_bs Try.underlying22 (OwnBA.bs (p1 s15 hx (q0 ?b64_0 A W 69 hf)))
      refine oc0 (fun A W hx hf => ?_) ?_
      exact ok_subI (q0 ?b64_1 A W 70 hf) (ec A (.int .i64 40)) (by rw [hwl]; omega)
      refine oc0 (fun A W hx hf => ?_) ?_
      exact ok_subI (q0 ?b64_2 A W 71 hf) (ec A (.int .i64 1)) (by rw [hwl]; omega)
      refine oc0 (fun A W hx hf => ?_) ?_
      exact ok_movE (a0 := a63) (r0 hf)
      refine oc0 (fun A W hx hf => ?_) ?_
      exact ok_rem (by decide) (p2 s3 e_w hx (q0 ?b64_4 A W 73 hf)) (ec A (.int .u8 8))
      refine oc0 (fun A W hx hf => ?_) ?_
      exact ok_convI Try.underlying5 Try.underlying3 (by rw [show z.tmod 8 = (K : Int) from hK]; exact IntWalk.i64_in _ (by omega)) (q0 ?b64_5 A W 74 hf)
      refine oc0 (fun A W hx hf => ?_) ?_
      exact ok_subI (q0 ?b64_3 A W 72 hf) (q1 ?b64_6 A W 75 hf) (by rw [hwl, show z.tmod 8 = (K : Int) from hK]; omega)
      refine oc0 (fun A W hx hf => ?_) ?_
      exact ok_assign (q0 ?b64_7 A W 76 hf)
      exact OpsOk.nil
     case t64 => exact inferInstance
     clear hr; intro a65 w65 x hr hd hs
     revert s15; revert s14; refine kp2 hs rfl ?_; intro s14 s15
     clear s3
     have s16 := fa ?b64_7 a65 w65 16 (hd 8 16 rfl)
     replace e_w := e_w.trans x
     replace e_w61 := e_w61.trans x
     have e_w63 := x
     clear hd hs x
     replace s16 := Is.int s16 (show _ = (lensE (many8 l 8) : Int) - ((K + 1 : Nat) : Int) from by rw [hwl, show z.tmod 8 = (K : Int) from hK]; omega)
     refine exit_then ?_
     refine wp_seq ?_
     refine wp_reg_pre (l := [_, _, _, _, _]) (rest := [_]) 98 [[(15, none)], [(16, none)], [(78, some 1)], [(79, some 2)], [(77, some 0)]] [?b66_0, ?b66_1, ?b66_2, ?b66_3, ?b66_4] (by kernel_rfl) (by kernel_rfl) hr ?t66 ?o66 ?_
     case o66 =>
      refine oc0 (fun A W hx hf => ?_) ?_
      exact ok_movE (a0 := a65) (r0 hf)
      refine oc0 (fun A W hx hf => ?_) ?_
      exact ok_movE (a0 := a65) (r0 hf)
      refine oc0 (fun A W hx hf => ?_) ?_
      exact ok_quo (by decide) (p1 s16 hx (q0 ?b66_1 A W 78 hf)) (ec A (.int .i64 256))
      refine oc0 (fun A W hx hf => ?_) ?_
      exact ok_conv8 Try.underlying3 Try.underlying5 (q0 ?b66_2 A W 79 hf)
      refine oc0 (fun A W hx hf => ?_) ?_
      exact ok_indexA (4) Try.underlying22 size5 (p2 s15 e_w63 hx (q0 ?b66_0 A W 77 hf)) (ec A (.int .i64 4)) (by rw [hwl]; omega)
      exact OpsOk.nil
     case t66 => exact inferInstance
     clear hr; intro a67 w67 x hr hd hs
     revert s16; revert s15; revert s14; refine kp3 hs rfl ?_; intro s14 s15 s16
     have s80 := fa ?b66_3 a67 w67 80 (hd 3 80 rfl)
     have s81 := fa ?b66_4 a67 w67 81 (hd 4 81 rfl)
     replace e_w := e_w.trans x
     replace e_w61 := e_w61.trans x
     replace e_w63 := e_w63.trans x
     have e_w65 := x
     clear hd hs x
     have z68 := EpA.lt s81
     have l68 := (show (g63_15 = 0 ∨ w.heap.size < g63_15) ∧ True from ⟨by omega, trivial⟩)
     refine wl_storeA hr size5 s81 s80 ?_; clear hr; intro a68 w68 hc hu hr hs
     have hb : Below w.heap.size w67 w68 := hc.below e_w.size l68.1
     revert s16; revert s15; revert s14; refine kp3 hs rfl ?_; intro s14 s15 s16
     clear s80 s81
     replace s15 := hu _ _ _ (later e_w63 s15)
     replace e_w := e_w.below (Nat.le_refl _) hb
     clear e_w61
     clear e_w63
     clear e_w65
     replace s14 := anyw (w2 := w68) s14
     replace s16 := anyw (w2 := w68) s16
     clear hu hs hc hb
     refine wpList_nil ?_
     refine exit_then ?_
     refine wp_seq ?_
     refine wp_reg_pre (l := [_, _, _, _, _]) (rest := [_]) 98 [[(15, none)], [(16, none)], [(83, some 1)], [(84, some 2)], [(82, some 0)]] [?b69_0, ?b69_1, ?b69_2, ?b69_3, ?b69_4] (by kernel_rfl) (by kernel_rfl) hr ?t69 ?o69 ?_
     case o69 =>
      refine oc0 (fun A W hx hf => ?_) ?_
      exact ok_movE (a0 := a68) (r0 hf)
      refine oc0 (fun A W hx hf => ?_) ?_
      exact ok_movE (a0 := a68) (r0 hf)
      refine oc0 (fun A W hx hf => ?_) ?_
      exact ok_rem (by decide) (p1 s16 hx (q0 ?b69_1 A W 83 hf)) (ec A (.int .i64 256))
      refine oc0 (fun A W hx hf => ?_) ?_
      exact ok_conv8 Try.underlying3 Try.underlying5 (q0 ?b69_2 A W 84 hf)
      refine oc0 (fun A W hx hf => ?_) ?_
      exact ok_indexA (5) Try.underlying22 size5 (p1 s15 hx (q0 ?b69_0 A W 82 hf)) (ec A (.int .i64 5)) (by rw [List.length_set, hwl]; omega)
      exact OpsOk.nil
     case t69 => exact inferInstance
     clear hr; intro a70 w70 x hr hd hs
     revert s14; revert s15; refine kp2 hs rfl ?_; intro s15 s14
     clear s16
     have s85 := fa ?b69_3 a70 w70 85 (hd 3 85 rfl)
     have s86 := fa ?b69_4 a70 w70 86 (hd 4 86 rfl)
     replace e_w := e_w.trans x
     have e_w68 := x
     clear hd hs x
     have z71 := EpA.lt s86
     have l71 := (show (g63_15 = 0 ∨ w.heap.size < g63_15) ∧ True from ⟨by omega, trivial⟩)
     refine wl_storeA hr size5 s86 s85 ?_; clear hr; intro a71 w71 hc hu hr hs
     have hb : Below w.heap.size w70 w71 := hc.below e_w.size l71.1
     revert s14; revert s15; refine kp2 hs rfl ?_; intro s15 s14
     clear s85 s86
     replace s15 := hu _ _ _ (later e_w68 s15)
     replace e_w := e_w.below (Nat.le_refl _) hb
     clear e_w68
     replace s14 := anyw (w2 := w71) s14
     clear hu hs hc hb
     refine wpList_nil ?_
     replace s15 := OwnBA.cast s15 (show _ = hdr6 H ((lensE (many8 l 8) : Int) - ((K + 1 : Nat) : Int)) (laidE (many8 l 8) H.proto).1 ++ (laidE (many8 l 8) H.proto).2 from by rw [← whole_set hH, b8_quo (by omega), b8_rem (by omega)])
     refine exit_then ?_
     refine wp_seq ?_
     refine wp_reg_pre (l := [_, _, _, _, _, _]) (rest := [_, _]) 98 [[(15, none)], [(88, some 0)], [(89, some 1)], [(87, some 2)], [(87, some 2)], []] [?b72_0, ?b72_1, ?b72_1, ?b72_3, ?b72_4, ?b72_5] (by kernel_rfl) (by kernel_rfl) hr ?t72 ?o72 ?_
     case o72 =>
      refine oc0 (fun A W hx hf => ?_) ?_
      exact ok_movE (a0 := a71) (r0 hf)
      refine oc0 (fun A W hx hf => ?_) ?_
      exact ok_call1 body10 (c_xRead (OwnBA.bs (p1 s15 hx (q0 ?b72_0 A W 88 hf))))
      refine oc0 (fun A W hx hf => ?_) ?_
      exact ok_move (q0 ?b72_1 A W 89 hf)
      refine oc0 (fun A W hx hf => ?_) ?_
      exact ok_ext0 (q0 ?b72_1 A W 87 hf)
      refine oc0 (fun A W hx hf => ?_) ?_
      exact ok_ext1 (q0 ?b72_1 A W 87 hf)
      refine oc0 (fun A W hx hf => ?_) ?_
      exact ok_allocS [(sixS six0).flatten] [40] zerov28 (by rfl) (by rfl) hx.size
      exact OpsOk.nil
     case t72 => exact inferInstance
     clear hr; intro a73 w73 x hr hd hs
     have z_w_w71 := e_w.size
     have l73_15 := OwnBA.lt s15
     revert s14; refine kp1 hs rfl ?_; intro s14
     clear s15
     have s90 := fa ?b72_3 a73 w73 90 (hd 3 90 rfl)
     have s91 := fa ?b72_4 a73 w73 91 (hd 4 91 rfl)
     have s17 := fa ?b72_5 a73 w73 17 (hd 5 17 rfl)
     obtain ⟨g73_17, q73_17⟩ := PxN.at s17; clear s17; have n73_17 := PxS.lt q73_17
     replace q73_17 := PxS.mono q73_17 e_w.size
     have s17 := q73_17; clear q73_17
     replace e_w := e_w.trans x
     have e_w71 := x
     clear hd hs x
     have z74 := PxS.lt s17
     have l74 := (show (g73_17 = 0 ∨ w.heap.size < g73_17) ∧ True from ⟨by omega, trivial⟩)
     refine wl_storeSn hr size28 s17 s90 (by exact six_len (sixRead_ok _)) (by exact six_one) rfl ?_; clear hr; intro a74 w74 hc hu hr hs
     have hb : Below w.heap.size w73 w74 := hc.below e_w.size l74.1
     revert s91; revert s14; refine kp2 hs rfl ?_; intro s14 s91
     clear s90 s17
     replace e_w := e_w.below (Nat.le_refl _) hb
     clear e_w71
     replace s14 := anyw (w2 := w74) s14
     replace s91 := anyw (w2 := w74) s91
     clear hu hs hc hb
     refine wl_op hr (ok_assign s91) inferInstance ?_; clear hr; intro a75 w75 x hr hd hs
     revert s14; refine kp1 hs rfl ?_; intro s14
     clear s91
     have s18 := hd 18 rfl (by decide)
     replace e_w := e_w.trans x
     have e_w74 := x
     clear hd hs x
     refine wpList_nil ?_
     replace s18 := Is.int s18 (show _ = (2 : Int) from by rw [hwc])
     refine exit_then ?_
     refine wp_seq ?_
     refine wp_reg 98 [[(14, none)], [(92, some 0)], [(93, some 1)], [(18, none), (94, some 2)], [(95, some 3), (94, some 2)], [(94, some 2), (96, some 4)], [(97, some 5)]] [?b76_0, ?b76_1, ?b76_1, ?b76_3, ?b76_4, ?b76_5, ?b76_5] mixed (by kernel_rfl) (by kernel_rfl) hr ?t76 ?o76 ?_
     case o76 =>
      refine oc0 (fun A W hx hf => ?_) ?_
      exact ok_movE (a0 := a75) (r0 hf)
      refine oc0 (fun A W hx hf => ?_) ?_
      exact ok_eql (p2 s14 e_w74 hx (q0 ?b76_0 A W 92 hf)) (ec A (.int .i64 4))
      refine oc0 (fun A W hx hf => ?_) ?_
      exact ok_move (q0 ?b76_1 A W 93 hf)
      refine ocg 94 ?_ (fun A W hx hf => ?_) ?_
      rfl
      exact gd_t (q1 ?b76_1 A W 94 hf) (fun hc => ok_movE (a0 := a75) (r0 hf))
      refine ocg 94 ?_ (fun A W hx hf => ?_) ?_
      rfl
      exact gd_t (q1 ?b76_1 A W 94 hf) (fun hc => ok_eql (p1 s18 hx (G.get (q0 ?b76_3 A W 95 hf) hc)) (ec A (.int .i64 2)))
      refine oc0 (fun A W hx hf => ?_) ?_
      exact ok_and (q0 ?b76_1 A W 94 hf) (q1 ?b76_4 A W 96 hf)
      refine oc0 (fun A W hx hf => ?_) ?_
      exact ok_assign (q0 ?b76_5 A W 97 hf)
      exact OpsOk.nil
     case t76 => exact inferInstance
     clear hr; intro a77 w77 x hr hd hs
     clear s14 s18
     have s8 := fa ?b76_5 a77 w77 8 (hd 6 8 rfl)
     replace e_w := e_w.trans x
     clear e_w74
     clear hd hs x
     refine exit_then ?_
     refine wp_ret ?_
     refine ret_tmp Try.results7 hr e_w ?_
     first | with_reducible exact s8 | exact Is.bool s8 (by simp; done)

end Go.Proofs.Ytdohlcakoamdhaa
