import Derived.Test.YtdohlcakoamdhaaA09
import Derived.Test.YtdohlcakoamdhaaC09g
import Derived.Test.YtdohlcakoamdhaaC09d
namespace Go.Proofs.Ytdohlcakoamdhaa
open Go.RowKit
set_option linter.unusedVariables false
set_option maxRecDepth 4000
def D_law_SixFragments_0 : List Tmp := [12, 44, 45, 46, 47, 48, 49, 50, 51, 52, 53]
set_option maxHeartbeats 1000000 in
theorem law_SixFragments {x0 x1 x2 x3 x4 : Value} {w : World} {H : SixL} {l : List ExtL} {q : Int} {g : UInt8} {m : List UInt8} (h0 : (Is (SixV H)) x0 w) (h1 : (Rw extR l) x1 w) (h2 : (Is (.int .u16 q)) x2 w) (h3 : (ByteIs g) x3 w) (h4 : (Bs m) x4 w) (hH : SixOk H) (hx9 : ∀ x ∈ l, ExtOk x) (hq : 0 ≤ q ∧ q ≤ 65535) :
    Calls Try.prog 6 #[x0, x1, x2, x3, x4] w (Ret (Is (.bool true)) w) := by
 have hs16 := hH.1
 have hd16 := hH.2
 have hlm := Bs.len_le h4
 have hgb := byte_bd g
 refine enter Try.func6 rfl Try.ntmps6 (k := 5) rfl (by decide) (fun a0 hr hargs => ?_)
 have s0 := sarg h0 (hargs 0 (by decide))
 have s1 := sarg h1 (hargs 1 (by decide))
 have s2 := sarg h2 (hargs 2 (by decide))
 have s3 := sarg h3 (hargs 3 (by decide))
 have s4 := sarg h4 (hargs 4 (by decide))
 clear hargs
 refine wp_seq ?_
 refine wp_reg 112 [[(0, none)], []] [?b1_0, ?b1_1] mixed (by kernel_rfl) (by kernel_rfl) hr ?t1 ?o1 ?_
 case o1 =>
  refine oc0 (fun A W hx hf => ?_) ?_
  exact ok_boxS (sixS2 H) [1, 1, 1, 1, 1, 1, 1, 16, 1, 16] (Is.conv (o1 s0 hx (r0 hf)) (show _ = Value.agg (sixS2 H).flatten.toArray from by rw [six_seg]; rfl)) (by exact sixS2_lens hH) hx.size
  refine oc0 (fun A W hx hf => ?_) ?_
  exact ok_assignc
  exact OpsOk.nil
 case t1 => exact inferInstance
 clear hr; intro a2 w2 x hr hd hs
 revert s4; revert s3; revert s2; revert s1; refine kp4 hs rfl ?_; intro s1 s2 s3 s4
 clear s0
 have s5 := fa ?b1_0 a2 w2 5 (hd 0 5 rfl)
 obtain ⟨g2_5, q2_5⟩ := PxN.at s5; clear s5; have n2_5 := PxS.lt q2_5
 have s5 := q2_5; clear q2_5
 have e_w := x
 clear hd hs x
 refine exit_then ?_
 refine wp_seq ?_
 refine wp_seq ?_
 refine wp_reg 112 [[], [(18, some 0)], [(19, some 1)], [(5, none), (20, some 2)], [(21, some 3), (20, some 2)], [(22, some 4), (20, some 2)], [(20, some 2), (23, some 5)], [(24, some 6)], [(1, none), (25, some 7)], [(26, some 8), (25, some 7)], [(27, some 9), (25, some 7)], [(25, some 7), (28, some 10)], [(29, some 11)], [(4, none), (30, some 12)], [(31, some 13), (30, some 12)], [(32, some 14), (30, some 12)], [(30, some 12), (33, some 15)], [(34, some 16)], [(2, none), (35, some 17)], [(36, some 18), (35, some 17)], [(37, some 19), (35, some 17)], [(35, some 17), (38, some 20)]] [?b3_0, ?b3_1, ?b3_1, ?b3_3, ?b3_4, ?b3_5, ?b3_6, ?b3_6, ?b3_8, ?b3_9, ?b3_10, ?b3_11, ?b3_11, ?b3_13, ?b3_14, ?b3_15, ?b3_16, ?b3_16, ?b3_18, ?b3_19, ?b3_20, ?b3_21] mixed (by kernel_rfl) (by kernel_rfl) hr ?t3 ?o3 ?_
 case o3 =>
  refine oc0 (fun A W hx hf => ?_) ?_
  exact ok_call0 body9 (c_awake09 )
  refine oc0 (fun A W hx hf => ?_) ?_
  exact ok_not (q0 ?b3_0 A W 18 hf)
  refine oc0 (fun A W hx hf => ?_) ?_
  exact ok_move (q0 ?b3_1 A W 19 hf)
  refine ocg 20 ?_ (fun A W hx hf => ?_) ?_
  rfl
  exact gd_f (q1 ?b3_1 A W 20 hf) (fun hc => ok_loadAggS 10 Try.underlying28 rfl size28 (o1 s5 hx (r0 hf)) rfl)
  refine ocg 20 ?_ (fun A W hx hf => ?_) ?_
  rfl
  exact gd_f (q1 ?b3_1 A W 20 hf) (fun hc => ok_call1 body13 (c_r9Right (show Is (SixV H) _ _ from Is.conv (G.get (q0 ?b3_3 A W 21 hf) hc) six_all) (by exact hH)))
  refine ocg 20 ?_ (fun A W hx hf => ?_) ?_
  rfl
  exact gd_f (q1 ?b3_1 A W 20 hf) (fun hc => ok_not (G.get (q0 ?b3_4 A W 22 hf) hc))
  refine oc0 (fun A W hx hf => ?_) ?_
  exact ok_or (q0 ?b3_1 A W 20 hf) (q1 ?b3_5 A W 23 hf)
  refine oc0 (fun A W hx hf => ?_) ?_
  exact ok_move (q0 ?b3_6 A W 24 hf)
  refine ocg 25 ?_ (fun A W hx hf => ?_) ?_
  rfl
  exact gd_f (q1 ?b3_6 A W 25 hf) (fun hc => ok_movE (a0 := a2) (r0 hf))
  refine ocg 25 ?_ (fun A W hx hf => ?_) ?_
  rfl
  exact gd_f (q1 ?b3_6 A W 25 hf) (fun hc => ok_len_rw Try.underlying40 (p2 s1 e_w hx (G.get (q0 ?b3_8 A W 26 hf) hc)))
  refine ocg 25 ?_ (fun A W hx hf => ?_) ?_
  rfl
  exact gd_f (q1 ?b3_6 A W 25 hf) (fun hc => ok_gtr (G.get (q0 ?b3_9 A W 27 hf) hc) (ec A (.int .i64 7)))
  refine oc0 (fun A W hx hf => ?_) ?_
  exact ok_or (q0 ?b3_6 A W 25 hf) (q1 ?b3_10 A W 28 hf)
  refine oc0 (fun A W hx hf => ?_) ?_
  exact ok_move (q0 ?b3_11 A W 29 hf)
  refine ocg 30 ?_ (fun A W hx hf => ?_) ?_
  rfl
  exact gd_f (q1 ?b3_11 A W 30 hf) (fun hc => ok_movE (a0 := a2) (r0 hf))
  refine ocg 30 ?_ (fun A W hx hf => ?_) ?_
  rfl
  exact gd_f (q1 ?b3_11 A W 30 hf) (fun hc => ok_len_bs Try.underlying22 (p2 s4 e_w hx (G.get (q0 ?b3_13 A W 31 hf) hc)))
  refine ocg 30 ?_ (fun A W hx hf => ?_) ?_
  rfl
  exact gd_f (q1 ?b3_11 A W 30 hf) (fun hc => ok_gtr (G.get (q0 ?b3_14 A W 32 hf) hc) (ec A (.int .i64 300)))
  refine oc0 (fun A W hx hf => ?_) ?_
  exact ok_or (q0 ?b3_11 A W 30 hf) (q1 ?b3_15 A W 33 hf)
  refine oc0 (fun A W hx hf => ?_) ?_
  exact ok_move (q0 ?b3_16 A W 34 hf)
  refine ocg 35 ?_ (fun A W hx hf => ?_) ?_
  rfl
  exact gd_f (q1 ?b3_16 A W 35 hf) (fun hc => ok_movE (a0 := a2) (r0 hf))
  refine ocg 35 ?_ (fun A W hx hf => ?_) ?_
  rfl
  exact gd_f (q1 ?b3_16 A W 35 hf) (fun hc => ok_andb (p2 s2 e_w hx (G.get (q0 ?b3_18 A W 36 hf) hc)) (ec A (.int .u16 65529)))
  refine ocg 35 ?_ (fun A W hx hf => ?_) ?_
  rfl
  exact gd_f (q1 ?b3_16 A W 35 hf) (fun hc => ok_eql (G.get (q0 ?b3_19 A W 37 hf) hc) (ec A (.int .u16 0)))
  refine oc0 (fun A W hx hf => ?_) ?_
  exact ok_or (q0 ?b3_16 A W 35 hf) (q1 ?b3_20 A W 38 hf)
  exact OpsOk.nil
 case t3 => exact inferInstance
 clear hr; intro a4 w4 x hr hd hs
 revert s5; revert s4; revert s3; revert s2; revert s1; refine kp5 hs rfl ?_; intro s1 s2 s3 s4 s5
 have s39 := fa ?b3_21 a4 w4 39 (hd 21 39 rfl)
 replace e_w := e_w.trans x
 have e_w2 := x
 clear hd hs x
 refine exit_then ?_
 refine wp_cond_split (show _ = _ from s39) (fun hg => ?_) (fun hg => ?_)
 · skip
   skip
   refine wp_seq ?_
   refine wp_reg 112 [[], [(40, some 0)]] [?b6_0, ?b6_0] mixed (by kernel_rfl) (by kernel_rfl) hr ?t6 ?o6 ?_
   case o6 =>
    refine oc0 (fun A W hx hf => ?_) ?_
    exact ok_call0 body9 (c_awake09 )
    refine oc0 (fun A W hx hf => ?_) ?_
    exact ok_assign (q0 ?b6_0 A W 40 hf)
    exact OpsOk.nil
   case t6 => exact inferInstance
   clear hr; intro a7 w7 x hr hd hs
   clear s1 s2 s3 s4 s5 s39
   have s10 := fa ?b6_0 a7 w7 10 (hd 1 10 rfl)
   replace e_w := e_w.trans x
   clear e_w2
   clear hd hs x
   refine exit_then ?_
   refine wp_ret ?_
   refine then_ret ?_
   refine ret_tmp Try.results6 hr e_w ?_
   first | with_reducible exact s10 | exact Is.bool s10 (by simp [hwl]; omega) | exact Is.bool s10 (by simp; done)
 · skip
   obtain ⟨hr9, hl7, hm3, hqn⟩ := frag_guard hg
   have hr59 := right59 hr9
   have hpb := part_bits hq hqn
   refine wp_skip ?_
   refine exit_then ?_
   refine wp_seq ?_
   refine wp_reg_pre (l := [_, _]) (rest := [_, _]) 112 [[], [(1, none)]] [?b8_0, ?b8_1] (by kernel_rfl) (by kernel_rfl) hr ?t8 ?o8 ?_
   case o8 =>
    refine oc0 (fun A W hx hf => ?_) ?_
    exact ok_buildRw (R := extR) [] [] Try.underlying40 size43 zerom43 rfl rfl rfl (by decide) (PartsR.nil) hx.size
    refine oc0 (fun A W hx hf => ?_) ?_
    exact ok_movE (a0 := a4) (r0 hf)
    exact OpsOk.nil
   case t8 => exact inferInstance
   clear hr; intro a9 w9 x hr hd hs
   have z_w_w4 := e_w.size
   have z_w2_w4 := e_w2.size
   have l9_5 := PxS.lt (later e_w2 s5)
   have u42 := mv s1 (fa ?b8_1 a9 w9 42 (hd 1 42 rfl))
   revert s5; revert s4; revert s3; revert s2; refine kp4 hs rfl ?_; intro s2 s3 s4 s5
   clear s1 s39
   have s42 := u42; clear u42
   have s41 := fa ?b8_0 a9 w9 41 (hd 0 41 rfl)
   obtain ⟨g9_41, q9_41⟩ := OwnR.at s41; clear s41; have n9_41 := OwnRA.lt q9_41
   replace q9_41 := OwnRA.mono q9_41 e_w.size
   have s41 := q9_41; clear q9_41
   replace e_w := e_w.trans x
   replace e_w2 := e_w2.trans x
   clear hd hs x
   have l10 := OwnRA.lt s41
   have l10_5 := PxS.lt (later e_w2 s5)
   refine wl_append_rwA hr (by decide) Try.underlying40 infom43 rfl s41 (later e_w s42) e_w.size (by first | (simp; omega) | (simp only [hwl]; omega)) ?_; clear hr; intro g10 a10 w10 hg10 hc hr hd hs
   have hb := hc.below e_w.size l10.1
   revert s5; revert s4; revert s3; revert s2; refine kp4 hs rfl ?_; intro s2 s3 s4 s5
   clear s42 s41
   replace s5 := PxS.other (later e_w2 s5) hc (by omega)
   have s43 := hd
   replace e_w := e_w.below (Nat.le_refl _) hb
   clear e_w2
   clear hd hs hb hc
   refine wl_op hr (ok_assign s43) inferInstance ?_; clear hr; intro a11 w11 x hr hd hs
   revert s5; revert s4; revert s3; revert s2; refine kp4 hs rfl ?_; intro s2 s3 s4 s5
   clear s43
   have s11 := hd 11 rfl (by decide)
   replace e_w := e_w.trans x
   have e_w10 := x
   clear hd hs x
   refine wpList_nil ?_
   replace s11 := OwnRA.cast s11 (show _ = ownTo own0 l 0 from by rw [ownTo_0]; rfl)
   refine exit_then ?_
   refine wp_seq ?_
   refine wp_seq ?_
   refine wp_reg 112 [[]] [?b12_0] mixed (by kernel_rfl) (by kernel_rfl) hr ?t12 ?o12 ?_
   case o12 =>
    refine oc0 (fun A W hx hf => ?_) ?_
    exact ok_assignc
    exact OpsOk.nil
   case t12 => exact inferInstance
   clear hr; intro a13 w13 x hr hd hs
   revert s11; revert s5; revert s4; revert s3; revert s2; refine kp5 hs rfl ?_; intro s2 s3 s4 s5 s11
   have s12 := fa ?b12_0 a13 w13 12 (hd 0 12 rfl)
   replace e_w := e_w.trans x
   replace e_w10 := e_w10.trans x
   have e_w11 := x
   clear hd hs x
   refine exit_then ?_
   refine wp_block ?_
   refine wp_loop_inv (fun n A W => ∃ (i : Nat), n = l.length - i ∧ Fr 112 A ∧ Same D_law_SixFragments_0 a13 A ∧ Ext w W ∧ (i ≤ l.length) ∧ (PxS g2_5 w.heap.size [1, 1, 1, 1, 1, 1, 1, 16, 1, 16] (sixS2 H) 0) (A.eval (.tmp 5)) W ∧ (OwnRA g10 w.heap.size 43 extR (ownTo own0 l i)) (A.eval (.tmp 11)) W ∧ (Is (.int .i64 (i : Int))) (A.eval (.tmp 12)) W) ?start14 ?_
   case start14 =>
    refine ⟨_, 0, rfl, hr, Same.rfl, e_w, (by first | assumption | omega), ?_, ?_, ?_⟩
    · exact (later e_w10 s5)
    · exact (later e_w11 s11)
    · first | exact s12 | exact Is.int s12 (by first | omega | simp) | exact Is.bool s12 (by first | omega | simp)
   intro n14 a14 w14 hI
   clear e_w
   clear e_w10
   clear e_w11
   clear hr; obtain ⟨i, hn14, hr, hs, e_w, hi, u5, u11, u12⟩ := hI
   revert s4; revert s3; revert s2; refine kp3 hs rfl ?_; intro s2 s3 s4
   clear s5 s11 s12
   have s5 := u5; clear u5
   have s11 := u11; clear u11
   have s12 := u12; clear u12
   have m14 := hs; clear hs
   refine wp_seq ?_
   refine wp_seq ?_
   refine wp_reg 112 [[(12, none)], [(11, none)], [(45, some 1)], [(44, some 0), (46, some 2)]] [?b15_0, ?b15_1, ?b15_2, ?b15_3] mixed (by kernel_rfl) (by kernel_rfl) hr ?t15 ?o15 ?_
   case o15 =>
    refine oc0 (fun A W hx hf => ?_) ?_
    exact ok_movE (a0 := a14) (r0 hf)
    refine oc0 (fun A W hx hf => ?_) ?_
    exact ok_movE (a0 := a14) (r0 hf)
    refine oc0 (fun A W hx hf => ?_) ?_
    exact ok_len_rw Try.underlying40 (OwnRA.rw (p1 s11 hx (q0 ?b15_1 A W 45 hf)))
    refine oc0 (fun A W hx hf => ?_) ?_
    exact ok_lss (p1 s12 hx (q0 ?b15_0 A W 44 hf)) (q1 ?b15_2 A W 46 hf)
    exact OpsOk.nil
   case t15 => exact inferInstance
   clear hr; intro a16 w16 x hr hd hs
   revert s12; revert s11; revert s5; revert s4; revert s3; revert s2; refine kp6 hs rfl ?_; intro s2 s3 s4 s5 s11 s12
   have s47 := fa ?b15_3 a16 w16 47 (hd 3 47 rfl)
   replace e_w := e_w.trans x
   have e_w14 := x
   replace m14 := m14.tr hs rfl
   clear hd hs x
   refine exit_then ?_
   refine wp_cond_split (show _ = _ from s47) (fun hlt => ?_) (fun hlt => ?_)
   · skip
     have hlt : i < l.length := by simp [ownTo_len] at hlt; omega
     refine wp_skip ?_
     refine exit_then ?_
     refine wp_seq ?_
     refine wp_block ?_
     refine wp_reg_pre (l := [_, _, _, _]) (rest := [_]) 112 [[(11, none)], [(12, none)], [(50, some 0), (51, some 1)], [(52, some 2)]] [?b18_0, ?b18_1, ?b18_2, ?b18_3] (by kernel_rfl) (by kernel_rfl) hr ?t18 ?o18 ?_
     case o18 =>
      refine oc0 (fun A W hx hf => ?_) ?_
      exact ok_movE (a0 := a16) (r0 hf)
      refine oc0 (fun A W hx hf => ?_) ?_
      exact ok_movE (a0 := a16) (r0 hf)
      refine oc0 (fun A W hx hf => ?_) ?_
      exact ok_indexR (_) Try.underlying40 size43 (p2 s11 e_w14 hx (q0 ?b18_0 A W 50 hf)) (p2 s12 e_w14 hx (q1 ?b18_1 A W 51 hf)) (by rw [ownTo_len]; exact hlt)
      refine oc0 (fun A W hx hf => ?_) ?_
      exact ok_fieldR Try.underlying43 (k := 2) rfl size41 rfl (q0 ?b18_2 A W 52 hf) (by decide)
      exact OpsOk.nil
     case t18 => exact inferInstance
     clear hr; intro a19 w19 x hr hd hs
     revert s12; revert s11; revert s5; revert s4; revert s3; revert s2; refine kp6 hs rfl ?_; intro s2 s3 s4 s5 s11 s12
     clear s47
     have s53 := fa ?b18_3 a19 w19 53 (hd 3 53 rfl)
     replace e_w := e_w.trans x
     replace e_w14 := e_w14.trans x
     replace m14 := m14.tr hs rfl
     clear hd hs x
     have z20 := EpR.lt s53
     have l20 := (show (g10 = 0 ∨ w.heap.size < g10) ∧ True from ⟨by omega, trivial⟩)
     have l20_5 := PxS.lt (later e_w14 s5)
     refine wl_storeR (own0 (l[i]'hlt)) hr size41 s53 (ec a19 (.int .u16 0)) (by rfl) (by intro h; rw [ownTo_at hlt]; rfl) ?_; clear hr; intro a20 w20 hc hu hr hs
     have hb : Below w.heap.size w19 w20 := hc.below e_w.size l20.1
     revert s12; revert s11; revert s5; revert s4; revert s3; revert s2; refine kp6 hs rfl ?_; intro s2 s3 s4 s5 s11 s12
     clear s53
     replace s5 := PxS.other (later e_w14 s5) hc (by omega)
     replace s11 := hu _ _ _ (later e_w14 s11)
     replace e_w := e_w.below (Nat.le_refl _) hb
     clear e_w14
     replace s12 := anyw (w2 := w20) s12
     replace m14 := m14.tr hs rfl
     clear hu hs hc hb
     refine wpList_nil ?_
     replace s11 := OwnRA.cast s11 (ownTo_step hlt)
     refine blk_normal ?_
     refine exit_then ?_
     refine wp_reg 112 [[(12, none)], [(48, some 0)], [(49, some 1)]] [?b21_0, ?b21_1, ?b21_1] mixed (by kernel_rfl) (by kernel_rfl) hr ?t21 ?o21 ?_
     case o21 =>
      refine oc0 (fun A W hx hf => ?_) ?_
      exact ok_movE (a0 := a20) (r0 hf)
      refine oc0 (fun A W hx hf => ?_) ?_
      exact ok_addI (p1 s12 hx (q0 ?b21_0 A W 48 hf)) (ec A (.int .i64 1)) (by omega)
      refine oc0 (fun A W hx hf => ?_) ?_
      exact ok_assign (q0 ?b21_1 A W 49 hf)
      exact OpsOk.nil
     case t21 => exact inferInstance
     clear hr; intro a22 w22 x hr hd hs
     revert s11; revert s5; revert s4; revert s3; revert s2; refine kp5 hs rfl ?_; intro s2 s3 s4 s5 s11
     clear s12
     have s12 := fa ?b21_1 a22 w22 12 (hd 2 12 rfl)
     replace e_w := e_w.trans x
     have e_w20 := x
     replace m14 := m14.tr hs rfl
     clear hd hs x
     refine exit_then ?_
     refine ⟨(fun (i : Nat) => l.length - i) (i + 1), ?_, ?_⟩
     · (try dsimp only); omega
     refine ⟨i + 1, rfl, hr, m14, e_w, (by first | assumption | omega), ?_, ?_, ?_⟩
     · exact (later e_w20 s5)
     · exact (later e_w20 s11)
     · first | exact s12 | exact Is.int s12 (by first | omega | simp) | exact Is.bool s12 (by first | omega | simp)
   · skip
     have hi0 : i = l.length := by simp [ownTo_len] at hlt; omega
     subst hi0
     replace s11 := OwnRA.cast s11 (ownTo_all own0 l)
     refine wp_exit ?_
     refine then_exit ?_
     refine then_exit ?_
     refine blk_exit ?_
     refine exit_then ?_
     refine wp_seq ?_
     refine wp_reg_pre (l := [_, _, _, _]) (rest := [_, _]) 112 [[(11, none)], [(2, none)], [(55, some 1)], [(56, some 2)]] [?b23_0, ?b23_1, ?b23_2, ?b23_3] (by kernel_rfl) (by kernel_rfl) hr ?t23 ?o23 ?_
     case o23 =>
      refine oc0 (fun A W hx hf => ?_) ?_
      exact ok_movE (a0 := a16) (r0 hf)
      refine oc0 (fun A W hx hf => ?_) ?_
      exact ok_movE (a0 := a16) (r0 hf)
      refine oc0 (fun A W hx hf => ?_) ?_
      exact ok_buildS [(0, (.const (.int .u8 4))), (2, (.tmp 55))] [(0, _), (2, _)] lay43 rfl (PartsC.one (ec A (.int .u8 4)) rfl (PartsC.one (p2 s2 e_w hx (q0 ?b23_1 A W 55 hf)) rfl (PartsC.nil))) (by first | rfl | simp [adrCells, *])
      refine oc0 (fun A W hx hf => ?_) ?_
      exact ok_buildRw (R := extR) [(.tmp 56)] [frag4 q] Try.underlying40 size43 zerom43 rfl rfl rfl (by decide) (PartsR.cons (Is.conv (q0 ?b23_2 A W 56 hf) rfl) (PartsR.nil)) hx.size
      exact OpsOk.nil
     case t23 => exact inferInstance
     clear hr; intro a24 w24 x hr hd hs
     have z_w_w16 := e_w.size
     have z_w14_w16 := e_w14.size
     have l24_5 := PxS.lt (later e_w14 s5)
     have l24_11 := OwnRA.lt (later e_w14 s11)
     have u54 := mv s11 (fa ?b23_0 a24 w24 54 (hd 0 54 rfl))
     revert s5; revert s4; revert s3; refine kp3 hs rfl ?_; intro s3 s4 s5
     clear s2 s11 s12 s47
     have s54 := u54; clear u54
     have s57 := fa ?b23_3 a24 w24 57 (hd 3 57 rfl)
     obtain ⟨g24_57, q24_57⟩ := OwnR.at s57; clear s57; have n24_57 := OwnRA.lt q24_57
     replace q24_57 := OwnRA.mono q24_57 e_w.size
     have s57 := q24_57; clear q24_57
     replace e_w := e_w.trans x
     replace e_w14 := e_w14.trans x
     clear hd hs x
     have l25 := OwnRA.lt (later e_w14 s54)
     have l25_5 := PxS.lt (later e_w14 s5)
     refine wl_append_rwA hr (by decide) Try.underlying40 infom43 rfl (later e_w14 s54) (OwnRA.rw s57) e_w.size (by first | (simp; omega) | (simp only [hwl]; omega)) ?_; clear hr; intro g25 a25 w25 hg25 hc hr hd hs
     have hb := hc.below e_w.size l25.1
     revert s5; revert s4; revert s3; refine kp3 hs rfl ?_; intro s3 s4 s5
     clear s54 s57
     replace s5 := PxS.other (later e_w14 s5) hc (by omega)
     have s58 := hd
     replace e_w := e_w.below (Nat.le_refl _) hb
     clear e_w14
     clear hd hs hb hc
     refine wl_op hr (ok_assign s58) inferInstance ?_; clear hr; intro a26 w26 x hr hd hs
     revert s5; revert s4; revert s3; refine kp3 hs rfl ?_; intro s3 s4 s5
     clear s58
     have s13 := hd 13 rfl (by decide)
     replace e_w := e_w.trans x
     have e_w25 := x
     clear hd hs x
     refine wpList_nil ?_
     refine exit_then ?_
     refine wp_seq ?_
     refine wp_reg_pre (l := [_]) (rest := [_]) 112 [[(5, none)]] [?b27_0] (by kernel_rfl) (by kernel_rfl) hr ?t27 ?o27 ?_
     case o27 =>
      refine oc0 (fun A W hx hf => ?_) ?_
      exact ok_fieldS 5 Try.underlying28 (k := 5) rfl size3 rfl (o2 s5 e_w25 hx (r0 hf)) rfl
      exact OpsOk.nil
     case t27 => exact inferInstance
     clear hr; intro a28 w28 x hr hd hs
     revert s13; revert s5; revert s4; revert s3; refine kp4 hs rfl ?_; intro s3 s4 s5 s13
     have s59 := fa ?b27_0 a28 w28 59 (hd 0 59 rfl)
     replace e_w := e_w.trans x
     replace e_w25 := e_w25.trans x
     have e_w26 := x
     clear hd hs x
     have z29 := PxS.lt s59
     have l29 := (show (g2_5 = 0 ∨ w.heap.size < g2_5) ∧ True from ⟨by omega, trivial⟩)
     have l29_13 := OwnRA.lt (later e_w26 s13)
     refine wl_storeS hr size3 s59 (ec a28 (.int .i64 59)) (by rfl) rfl ?_; clear hr; intro a29 w29 hc hu hr hs
     have hb : Below w.heap.size w28 w29 := hc.below e_w.size l29.1
     revert s13; revert s5; revert s4; revert s3; refine kp4 hs rfl ?_; intro s3 s4 s5 s13
     clear s59
     replace s5 := hu _ _ _ (later e_w25 s5)
     try simp only [List.set_cons_zero, List.set_cons_succ, sixS2] at s5
     replace s13 := OwnRA.other (later e_w26 s13) hc (by omega)
     replace e_w := e_w.below (Nat.le_refl _) hb
     clear e_w25
     clear e_w26
     clear hu hs hc hb
     refine wpList_nil ?_
     replace s5 := PxS.cast s5 (show _ = sixS2 { H with proto := 59 } from rfl)
     refine exit_then ?_
     refine wp_seq ?_
     have hlf := frag4_len l q
     have hlm0 := lensE_map (f := own0) (fun x => rfl) l
     have hwl := wholeE_len (H := { H with proto := 59 }) hH (l.map own0 ++ [frag4 q]) m
     rw [hlf] at hwl
     have hlb9 := lensE_bd l
     have hwf := whole_frag (H := H) (l := l.map own0) (load := m) (x := frag4 q) (g := (g.toNat : Int)) hH hr59 (noFrag0 l) (by simp; omega) (by omega) hq rfl hpb (by omega)
     rw [hlm0, b8_byte] at hwf
     refine wp_reg 112 [[(5, none)], [(13, none)], [(4, none)], [(60, some 0), (61, some 1), (62, some 2)], [(63, some 3)]] [?b30_0, ?b30_1, ?b30_2, ?b30_3, ?b30_3] mixed (by kernel_rfl) (by kernel_rfl) hr ?t30 ?o30 ?_
     case o30 =>
      refine oc0 (fun A W hx hf => ?_) ?_
      exact ok_loadAggS 10 Try.underlying28 rfl size28 (o1 s5 hx (r0 hf)) rfl
      refine oc0 (fun A W hx hf => ?_) ?_
      exact ok_movE (a0 := a29) (r0 hf)
      refine oc0 (fun A W hx hf => ?_) ?_
      exact ok_movE (a0 := a29) (r0 hf)
      refine oc0 (fun A W hx hf => ?_) ?_
      exact ok_call3 body17 (c_whole9 (show Is (SixV { H with proto := 59 }) _ _ from Is.conv (q0 ?b30_0 A W 60 hf) six_all) (OwnRA.rw (p1 s13 hx (q1 ?b30_1 A W 61 hf))) (p2 s4 e_w hx (q2 ?b30_2 A W 62 hf)) (by exact hH) (by exact hr59) (by exact frag4_ok hq) (by simp; omega) (by omega) hx.size)
      refine oc0 (fun A W hx hf => ?_) ?_
      exact ok_assign (q0 ?b30_3 A W 63 hf)
      exact OpsOk.nil
     case t30 => exact inferInstance
     clear hr; intro a31 w31 x hr hd hs
     have z_w_w29 := e_w.size
     have l31_13 := OwnRA.lt s13
     have l31_5 := PxS.lt s5
     revert s13; revert s4; revert s3; refine kp3 hs rfl ?_; intro s3 s4 s13
     clear s5
     have s14 := fa ?b30_3 a31 w31 14 (hd 4 14 rfl)
     obtain ⟨g31_14, q31_14⟩ := OwnB.at s14; clear s14; have n31_14 := OwnBA.lt q31_14
     replace q31_14 := OwnBA.mono q31_14 e_w.size
     have s14 := q31_14; clear q31_14
     replace e_w := e_w.trans x
     have e_w29 := x
     clear hd hs x
     refine exit_then ?_
     refine wp_seq ?_
     refine wp_reg 112 [[(14, none)], [(64, some 0)], [(4, none)], [(66, some 2)], [(65, some 1), (67, some 3)], [(68, some 4)]] [?b32_0, ?b32_1, ?b32_2, ?b32_3, ?b32_4, ?b32_4] mixed (by kernel_rfl) (by kernel_rfl) hr ?t32 ?o32 ?_
     case o32 =>
      refine oc0 (fun A W hx hf => ?_) ?_
      exact ok_movE (a0 := a31) (r0 hf)
      refine oc0 (fun A W hx hf => ?_) ?_
      exact ok_len_bs Try.underlying22 (OwnBA.bs (p1 s14 hx (q0 ?b32_0 A W 64 hf)))
      refine oc0 (fun A W hx hf => ?_) ?_
      exact ok_movE (a0 := a31) (r0 hf)
      refine oc0 (fun A W hx hf => ?_) ?_
      exact ok_len_bs Try.underlying22 (p2 s4 e_w hx (q0 ?b32_2 A W 66 hf))
      refine oc0 (fun A W hx hf => ?_) ?_
      exact ok_subI (q0 ?b32_1 A W 65 hf) (q1 ?b32_3 A W 67 hf) (by rw [hwl]; omega)
      refine oc0 (fun A W hx hf => ?_) ?_
      exact ok_assign (q0 ?b32_4 A W 68 hf)
      exact OpsOk.nil
     case t32 => exact inferInstance
     clear hr; intro a33 w33 x hr hd hs
     revert s14; revert s13; revert s3; refine kp3 hs rfl ?_; intro s3 s13 s14
     clear s4
     have s15 := fa ?b32_4 a33 w33 15 (hd 5 15 rfl)
     replace e_w := e_w.trans x
     replace e_w29 := e_w29.trans x
     have e_w31 := x
     clear hd hs x
     replace s15 := Is.int s15 (show _ = (48 + (lensE l : Int) : Int) from by rw [hwl]; omega)
     refine exit_then ?_
     refine wp_seq ?_
     refine wp_reg_pre (l := [_, _, _, _, _]) (rest := [_]) 112 [[(14, none)], [(15, none)], [(70, some 1)], [(3, none)], [(69, some 0), (71, some 2)]] [?b34_0, ?b34_1, ?b34_2, ?b34_3, ?b34_4] (by kernel_rfl) (by kernel_rfl) hr ?t34 ?o34 ?_
     case o34 =>
      refine oc0 (fun A W hx hf => ?_) ?_
      exact ok_movE (a0 := a33) (r0 hf)
      refine oc0 (fun A W hx hf => ?_) ?_
      exact ok_movE (a0 := a33) (r0 hf)
      refine oc0 (fun A W hx hf => ?_) ?_
      exact ok_subI (p1 s15 hx (q0 ?b34_1 A W 70 hf)) (ec A (.int .i64 8)) (by omega)
      refine oc0 (fun A W hx hf => ?_) ?_
      exact ok_movE (a0 := a33) (r0 hf)
      refine oc0 (fun A W hx hf => ?_) ?_
      exact ok_indexA (40 + lensE l) Try.underlying22 size5 (p2 s14 e_w31 hx (q0 ?b34_0 A W 69 hf)) (Is.int (q1 ?b34_2 A W 71 hf) (by omega)) (by rw [hwl]; omega)
      exact OpsOk.nil
     case t34 => exact inferInstance
     clear hr; intro a35 w35 x hr hd hs
     have u72 := mv s3 (fa ?b34_3 a35 w35 72 (hd 3 72 rfl))
     revert s15; revert s14; revert s13; revert s3; refine kp4 hs rfl ?_; intro s3 s13 s14 s15
     have s72 := u72; clear u72
     have s73 := fa ?b34_4 a35 w35 73 (hd 4 73 rfl)
     replace e_w := e_w.trans x
     replace e_w29 := e_w29.trans x
     replace e_w31 := e_w31.trans x
     have e_w33 := x
     clear hd hs x
     have z36 := EpA.lt s73
     have l36 := (show (g31_14 = 0 ∨ w.heap.size < g31_14) ∧ True from ⟨by omega, trivial⟩)
     have l36_13 := OwnRA.lt (later e_w29 s13)
     refine wl_storeA hr size5 s73 (later e_w s72) ?_; clear hr; intro a36 w36 hc hu hr hs
     have hb : Below w.heap.size w35 w36 := hc.below e_w.size l36.1
     revert s15; revert s14; revert s13; revert s3; refine kp4 hs rfl ?_; intro s3 s13 s14 s15
     clear s72 s73
     replace s13 := OwnRA.other (later e_w29 s13) hc (by omega)
     replace s14 := hu _ _ _ (later e_w31 s14)
     replace e_w := e_w.below (Nat.le_refl _) hb
     clear e_w29
     clear e_w31
     clear e_w33
     replace s15 := anyw (w2 := w36) s15
     clear hu hs hc hb
     refine wpList_nil ?_
     refine exit_then ?_
     refine wp_seq ?_
     refine wp_reg_pre (l := [_, _, _, _, _, _]) (rest := [_, _]) 112 [[(14, none)], [(75, some 0)], [(76, some 1)], [(74, some 2)], [(74, some 2)], []] [?b37_0, ?b37_1, ?b37_1, ?b37_3, ?b37_4, ?b37_5] (by kernel_rfl) (by kernel_rfl) hr ?t37 ?o37 ?_
     case o37 =>
      refine oc0 (fun A W hx hf => ?_) ?_
      exact ok_movE (a0 := a36) (r0 hf)
      refine oc0 (fun A W hx hf => ?_) ?_
      exact ok_call1 body10 (c_xRead (OwnBA.bs (p1 s14 hx (q0 ?b37_0 A W 75 hf))))
      refine oc0 (fun A W hx hf => ?_) ?_
      exact ok_move (q0 ?b37_1 A W 76 hf)
      refine oc0 (fun A W hx hf => ?_) ?_
      exact ok_ext0 (q0 ?b37_1 A W 74 hf)
      refine oc0 (fun A W hx hf => ?_) ?_
      exact ok_ext1 (q0 ?b37_1 A W 74 hf)
      refine oc0 (fun A W hx hf => ?_) ?_
      exact ok_allocS (sixS2 six0) [1, 1, 1, 1, 1, 1, 1, 16, 1, 16] zerov28 (by rfl) (by rfl) hx.size
      exact OpsOk.nil
     case t37 => exact inferInstance
     clear hr; intro a38 w38 x hr hd hs
     have z_w_w36 := e_w.size
     have l38_13 := OwnRA.lt s13
     have l38_14 := OwnBA.lt s14
     revert s15; revert s14; revert s13; revert s3; refine kp4 hs rfl ?_; intro s3 s13 s14 s15
     have s77 := fa ?b37_3 a38 w38 77 (hd 3 77 rfl)
     have s78 := fa ?b37_4 a38 w38 78 (hd 4 78 rfl)
     have s16 := fa ?b37_5 a38 w38 16 (hd 5 16 rfl)
     obtain ⟨g38_16, q38_16⟩ := PxN.at s16; clear s16; have n38_16 := PxS.lt q38_16
     replace q38_16 := PxS.mono q38_16 e_w.size
     have s16 := q38_16; clear q38_16
     replace e_w := e_w.trans x
     have e_w36 := x
     clear hd hs x
     have z39 := PxS.lt s16
     have l39 := (show (g38_16 = 0 ∨ w.heap.size < g38_16) ∧ True from ⟨by omega, trivial⟩)
     have l39_13 := OwnRA.lt (later e_w36 s13)
     have l39_14 := OwnBA.lt (later e_w36 s14)
     refine wl_storeSm (sixS2 (sixRead ((wholeE { H with proto := 59 } (l.map own0 ++ [frag4 q]) m).set (40 + lensE l) g)).1) hr size28 s16 (Is.conv s77 (show SixV _ = _ from by unfold SixV; rw [six_seg])) (by exact sixS2_lens (sixRead_ok _)) (by rw [six_seg]; exact six_one) rfl ?_; clear hr; intro a39 w39 hc hu hr hs
     have hb : Below w.heap.size w38 w39 := hc.below e_w.size l39.1
     revert s16; revert s78; revert s15; revert s14; revert s13; revert s3; refine kp6 hs rfl ?_; intro s3 s13 s14 s15 s78 s16
     clear s77
     replace s13 := OwnRA.other (later e_w36 s13) hc (by omega)
     replace s14 := OwnBA.other (later e_w36 s14) hc (by omega)
     replace s16 := hu _ _ _ s16
     try simp only [List.set_cons_zero, List.set_cons_succ, sixS2] at s16
     replace e_w := e_w.below (Nat.le_refl _) hb
     clear e_w36
     replace s15 := anyw (w2 := w39) s15
     replace s78 := anyw (w2 := w39) s78
     clear hu hs hc hb
     refine wl_op hr (ok_assign s78) inferInstance ?_; clear hr; intro a40 w40 x hr hd hs
     revert s15; revert s16; revert s14; revert s13; revert s3; refine kp5 hs rfl ?_; intro s3 s13 s14 s16 s15
     clear s78
     have s17 := hd 17 rfl (by decide)
     replace e_w := e_w.trans x
     have e_w39 := x
     clear hd hs x
     refine wpList_nil ?_
     rw [hwf] at s16 s17
     refine exit_then ?_
     refine wp_seq ?_
     refine wp_reg 112 ([(17, none)] :: [(79, some 0)] :: [(80, some 1)] :: [(16, none), (81, some 2)] :: [(82, some 3), (81, some 2)] :: [(81, some 2), (83, some 4)] :: [(84, some 5)] :: [(16, none), (85, some 6)] :: [(86, some 7), (85, some 6)] :: [(15, none), (85, some 6)] :: [(87, some 8), (88, some 9), (85, some 6)] :: [(85, some 6), (89, some 10)] :: [(90, some 11)] :: [(16, none), (91, some 12)] :: [(92, some 13), (91, some 12)] :: [(13, none), (91, some 12)] :: [(94, some 15), (91, some 12)] :: [(93, some 14), (95, some 16), (91, some 12)] :: [(91, some 12), (96, some 17)] :: [(97, some 18)] :: [(16, none), (98, some 19)] :: [(99, some 20), (98, some 19)] :: [(3, none), (98, some 19)] :: [(101, some 22), (98, some 19)] :: [(100, some 21), (102, some 23), (98, some 19)] :: [(98, some 19), (103, some 24)] :: [(104, some 25)] :: [(16, none), (105, some 26)] :: [(106, some 27), (105, some 26)] :: [(14, none), (105, some 26)] :: [(108, some 29), (105, some 26)] :: [(107, some 28), (109, some 30), (105, some 26)] :: [(105, some 26), (110, some 31)] :: [(111, some 32)] :: []) (?b41_0 :: ?b41_1 :: ?b41_1 :: ?b41_3 :: ?b41_4 :: ?b41_5 :: ?b41_5 :: ?b41_7 :: ?b41_8 :: ?b41_9 :: ?b41_10 :: ?b41_11 :: ?b41_11 :: ?b41_13 :: ?b41_14 :: ?b41_15 :: ?b41_16 :: ?b41_17 :: ?b41_18 :: ?b41_18 :: ?b41_20 :: ?b41_21 :: ?b41_22 :: ?b41_23 :: ?b41_24 :: ?b41_25 :: ?b41_25 :: ?b41_27 :: ?b41_28 :: ?b41_29 :: ?b41_30 :: ?b41_31 :: ?b41_32 :: ?b41_32 :: []) mixed (by kernel_rfl) (by kernel_rfl) hr ?t41 ?o41 ?_
     case o41 =>
      refine oc0 (fun A W hx hf => ?_) ?_
      exact ok_movE (a0 := a40) (r0 hf)
      refine oc0 (fun A W hx hf => ?_) ?_
      exact ok_eql (p1 s17 hx (q0 ?b41_0 A W 79 hf)) (ec A (.int .i64 0))
      refine oc0 (fun A W hx hf => ?_) ?_
      exact ok_move (q0 ?b41_1 A W 80 hf)
      refine ocg 81 ?_ (fun A W hx hf => ?_) ?_
      rfl
      exact gd_t (q1 ?b41_1 A W 81 hf) (fun hc => ok_fieldS 3 Try.underlying28 (k := 3) rfl size4 rfl (o2 s16 e_w39 hx (r0 hf)) rfl)
      refine ocg 81 ?_ (fun A W hx hf => ?_) ?_
      rfl
      exact gd_t (q1 ?b41_1 A W 81 hf) (fun hc => ok_loadS Try.underlying4 rfl (G.get (q0 ?b41_3 A W 82 hf) hc) rfl)
      refine oc0 (fun A W hx hf => ?_) ?_
      exact ok_and (q0 ?b41_1 A W 81 hf) (q1 ?b41_4 A W 83 hf)
      refine oc0 (fun A W hx hf => ?_) ?_
      exact ok_move (q0 ?b41_5 A W 84 hf)
      refine ocg 85 ?_ (fun A W hx hf => ?_) ?_
      rfl
      exact gd_t (q1 ?b41_5 A W 85 hf) (fun hc => ok_fieldS 0 Try.underlying28 (k := 0) rfl size3 rfl (o2 s16 e_w39 hx (r0 hf)) rfl)
      refine ocg 85 ?_ (fun A W hx hf => ?_) ?_
      rfl
      exact gd_t (q1 ?b41_5 A W 85 hf) (fun hc => ok_loadS Try.underlying3 rfl (G.get (q0 ?b41_7 A W 86 hf) hc) rfl)
      refine ocg 85 ?_ (fun A W hx hf => ?_) ?_
      rfl
      exact gd_t (q1 ?b41_5 A W 85 hf) (fun hc => ok_movE (a0 := a40) (r0 hf))
      refine ocg 85 ?_ (fun A W hx hf => ?_) ?_
      rfl
      exact gd_t (q2 ?b41_5 A W 85 hf) (fun hc => ok_eql (G.get (q0 ?b41_8 A W 87 hf) hc) (p2 s15 e_w39 hx (G.get (q1 ?b41_9 A W 88 hf) hc)))
      refine oc0 (fun A W hx hf => ?_) ?_
      exact ok_and (q0 ?b41_5 A W 85 hf) (q1 ?b41_10 A W 89 hf)
      refine oc0 (fun A W hx hf => ?_) ?_
      exact ok_move (q0 ?b41_11 A W 90 hf)
      refine ocg 91 ?_ (fun A W hx hf => ?_) ?_
      rfl
      exact gd_t (q1 ?b41_11 A W 91 hf) (fun hc => ok_fieldS 4 Try.underlying28 (k := 4) rfl size3 rfl (o2 s16 e_w39 hx (r0 hf)) rfl)
      refine ocg 91 ?_ (fun A W hx hf => ?_) ?_
      rfl
      exact gd_t (q1 ?b41_11 A W 91 hf) (fun hc => ok_loadS Try.underlying3 rfl (G.get (q0 ?b41_13 A W 92 hf) hc) rfl)
      refine ocg 91 ?_ (fun A W hx hf => ?_) ?_
      rfl
      exact gd_t (q1 ?b41_11 A W 91 hf) (fun hc => ok_movE (a0 := a40) (r0 hf))
      refine ocg 91 ?_ (fun A W hx hf => ?_) ?_
      rfl
      exact gd_t (q1 ?b41_11 A W 91 hf) (fun hc => ok_len_rw Try.underlying40 (OwnRA.rw (p2 s13 e_w39 hx (G.get (q0 ?b41_15 A W 94 hf) hc))))
      refine ocg 91 ?_ (fun A W hx hf => ?_) ?_
      rfl
      exact gd_t (q2 ?b41_11 A W 91 hf) (fun hc => ok_eql (G.get (q0 ?b41_14 A W 93 hf) hc) (G.get (q1 ?b41_16 A W 95 hf) hc))
      refine oc0 (fun A W hx hf => ?_) ?_
      exact ok_and (q0 ?b41_11 A W 91 hf) (q1 ?b41_17 A W 96 hf)
      refine oc0 (fun A W hx hf => ?_) ?_
      exact ok_move (q0 ?b41_18 A W 97 hf)
      refine ocg 98 ?_ (fun A W hx hf => ?_) ?_
      rfl
      exact gd_t (q1 ?b41_18 A W 98 hf) (fun hc => ok_fieldS 5 Try.underlying28 (k := 5) rfl size3 rfl (o2 s16 e_w39 hx (r0 hf)) rfl)
      refine ocg 98 ?_ (fun A W hx hf => ?_) ?_
      rfl
      exact gd_t (q1 ?b41_18 A W 98 hf) (fun hc => ok_loadS Try.underlying3 rfl (G.get (q0 ?b41_20 A W 99 hf) hc) rfl)
      refine ocg 98 ?_ (fun A W hx hf => ?_) ?_
      rfl
      exact gd_t (q1 ?b41_18 A W 98 hf) (fun hc => ok_movE (a0 := a40) (r0 hf))
      refine ocg 98 ?_ (fun A W hx hf => ?_) ?_
      rfl
      exact gd_t (q1 ?b41_18 A W 98 hf) (fun hc => ok_convB Try.underlying5 Try.underlying3 (by decide) (p2 s3 e_w hx (G.get (q0 ?b41_22 A W 101 hf) hc)))
      refine ocg 98 ?_ (fun A W hx hf => ?_) ?_
      rfl
      exact gd_t (q2 ?b41_18 A W 98 hf) (fun hc => ok_eql (G.get (q0 ?b41_21 A W 100 hf) hc) (G.get (q1 ?b41_23 A W 102 hf) hc))
      refine oc0 (fun A W hx hf => ?_) ?_
      exact ok_and (q0 ?b41_18 A W 98 hf) (q1 ?b41_24 A W 103 hf)
      refine oc0 (fun A W hx hf => ?_) ?_
      exact ok_move (q0 ?b41_25 A W 104 hf)
      refine ocg 105 ?_ (fun A W hx hf => ?_) ?_
      rfl
      exact gd_t (q1 ?b41_25 A W 105 hf) (fun hc => ok_fieldS 1 Try.underlying28 (k := 1) rfl size3 rfl (o2 s16 e_w39 hx (r0 hf)) rfl)
      refine ocg 105 ?_ (fun A W hx hf => ?_) ?_
      rfl
      exact gd_t (q1 ?b41_25 A W 105 hf) (fun hc => ok_loadS Try.underlying3 rfl (G.get (q0 ?b41_27 A W 106 hf) hc) rfl)
      refine ocg 105 ?_ (fun A W hx hf => ?_) ?_
      rfl
      exact gd_t (q1 ?b41_25 A W 105 hf) (fun hc => ok_movE (a0 := a40) (r0 hf))
      refine ocg 105 ?_ (fun A W hx hf => ?_) ?_
      rfl
      exact gd_t (q1 ?b41_25 A W 105 hf) (fun hc => ok_len_bs Try.underlying22 (OwnBA.bs (p2 s14 e_w39 hx (G.get (q0 ?b41_29 A W 108 hf) hc))))
      refine ocg 105 ?_ (fun A W hx hf => ?_) ?_
      rfl
      exact gd_t (q2 ?b41_25 A W 105 hf) (fun hc => ok_eql (G.get (q0 ?b41_28 A W 107 hf) hc) (G.get (q1 ?b41_30 A W 109 hf) hc))
      refine oc0 (fun A W hx hf => ?_) ?_
      exact ok_and (q0 ?b41_25 A W 105 hf) (q1 ?b41_31 A W 110 hf)
      refine oc0 (fun A W hx hf => ?_) ?_
      exact ok_assign (q0 ?b41_32 A W 111 hf)
      exact OpsOk.nil
     case t41 => repeat (first | exact stb_nil | refine stb_cons ?_)
     clear hr; intro a42 w42 x hr hd hs
     clear s3 s13 s14 s16 s15 s17
     have s10 := fa ?b41_32 a42 w42 10 (hd 33 10 rfl)
     replace e_w := e_w.trans x
     clear e_w39
     clear hd hs x
     refine exit_then ?_
     refine wp_ret ?_
     refine ret_tmp Try.results6 hr e_w ?_
     first | with_reducible exact s10 | exact Is.bool s10 (by simp [hwl]; omega) | exact Is.bool s10 (by simp; done)

end Go.Proofs.Ytdohlcakoamdhaa
