import Derived.Test.YtpjpfmnnefgnbaaC06
import Derived.Test.YtpjpfmnnefgnbaaM06
import Derived.Test.YtpjpfmnnefgnbaaS11
import Derived.Test.YtpjpfmnnefgnbaaC08
import Derived.Test.YtpjpfmnnefgnbaaC07
import Derived.Test.YtpjpfmnnefgnbaaC09m
namespace Go.Proofs.Ytpjpfmnnefgnbaa
open Go.RowKit
set_option linter.unusedVariables false
set_option linter.unusedSimpArgs false
set_option maxRecDepth 4000
theorem c_rtwo {x0 x1 : Value} {w : World} {l : List UInt8} {z : Int} (h0 : (Bs l) x0 w) (h1 : (Is (.int .i64 z)) x1 w) (hz0 : 0 ≤ z) (hz1 : z.toNat + 2 ≤ l.length) :
    Calls Try.prog 44 #[x0, x1] w (Ret (Is (.int .i64 (wordAt l z.toNat))) w) := by
 have hlen := Bs.len_le h0
 obtain ⟨i, rfl⟩ : ∃ i : Nat, z = (i : Int) := ⟨z.toNat, by omega⟩
 simp only [Int.toNat_natCast] at hz1 ⊢
 have g0 : i < l.length := by omega
 have g1 : i + 1 < l.length := by omega
 have y0 := byte_bd l[i]
 have y1 := byte_bd l[i + 1]
 refine enter Try.func44 rfl Try.ntmps44 (k := 2) rfl (by decide) (fun a0 hr hargs => ?_)
 have s0 := sarg h0 (hargs 0 (by decide))
 have s1 := sarg h1 (hargs 1 (by decide))
 clear hargs
 refine wp_seq ?_
 refine wp_reg 18 [[]] [?b1_0] mixed hr ?t1 ?o1 ?_
 case o1 =>
  refine oc0 (fun A W hx hf => ?_) ?_
  exact ok_assignc
  exact OpsOk.nil
 case t1 => exact inferInstance
 clear hr; intro a2 w2 x hr hd hs
 revert s1; revert s0; refine kp2 hs rfl ?_; intro s0 s1
 have e_w := x
 clear hd hs x
 refine exit_then ?_
 refine wp_seq ?_
 refine wp_reg 18 [[(0, none)], [(1, none)], [(5, some 0), (6, some 1)], [(7, some 2)], [(8, some 3)], [(9, some 4)], [(0, none)], [(1, none)], [(12, some 7)], [(11, some 6), (13, some 8)], [(14, some 9)], [(15, some 10)], [(10, some 5), (16, some 11)], [(17, some 12)]] [?b3_0, ?b3_1, ?b3_2, ?b3_3, ?b3_4, ?b3_5, ?b3_6, ?b3_7, ?b3_8, ?b3_9, ?b3_10, ?b3_11, ?b3_12, ?b3_12] mixed hr ?t3 ?o3 ?_
 case o3 =>
  refine oc0 (fun A W hx hf => ?_) ?_
  exact ok_movE (a0 := a2) (r0 hf)
  refine oc0 (fun A W hx hf => ?_) ?_
  exact ok_movE (a0 := a2) (r0 hf)
  refine oc0 (fun A W hx hf => ?_) ?_
  exact ok_index_bs (_) Try.underlying22 size5 (p2 s0 e_w hx (q0 ?b3_0 A W 5 hf)) (p2 s1 e_w hx (q1 ?b3_1 A W 6 hf)) (by first | omega | decide | (simp; done) | (simp; omega))
  refine oc0 (fun A W hx hf => ?_) ?_
  exact ok_loadp Try.underlying5 rfl (q0 ?b3_2 A W 7 hf)
  refine oc0 (fun A W hx hf => ?_) ?_
  exact ok_convB Try.underlying5 Try.underlying3 (by decide) (q0 ?b3_3 A W 8 hf)
  refine oc0 (fun A W hx hf => ?_) ?_
  exact ok_mulI (ec A (.int .i64 256)) (q0 ?b3_4 A W 9 hf) (by omega)
  refine oc0 (fun A W hx hf => ?_) ?_
  exact ok_movE (a0 := a2) (r0 hf)
  refine oc0 (fun A W hx hf => ?_) ?_
  exact ok_movE (a0 := a2) (r0 hf)
  refine oc0 (fun A W hx hf => ?_) ?_
  exact ok_addI (p2 s1 e_w hx (q0 ?b3_7 A W 12 hf)) (ec A (.int .i64 1)) (by omega)
  refine oc0 (fun A W hx hf => ?_) ?_
  exact ok_index_bs (i + 1) Try.underlying22 size5 (p2 s0 e_w hx (q0 ?b3_6 A W 11 hf)) (Is.int (q1 ?b3_8 A W 13 hf) (by omega)) (by first | omega | decide | (simp; done) | (simp; omega))
  refine oc0 (fun A W hx hf => ?_) ?_
  exact ok_loadp Try.underlying5 rfl (q0 ?b3_9 A W 14 hf)
  refine oc0 (fun A W hx hf => ?_) ?_
  exact ok_convB Try.underlying5 Try.underlying3 (by decide) (q0 ?b3_10 A W 15 hf)
  refine oc0 (fun A W hx hf => ?_) ?_
  exact ok_addI (q0 ?b3_5 A W 10 hf) (q1 ?b3_11 A W 16 hf) (by omega)
  refine oc0 (fun A W hx hf => ?_) ?_
  exact ok_assign (q0 ?b3_12 A W 17 hf)
  exact OpsOk.nil
 case t3 => exact inferInstance
 clear hr; intro a4 w4 x hr hd hs
 clear s0 s1
 have s4 := fa ?b3_12 a4 w4 4 (hd 13 4 rfl)
 replace e_w := e_w.trans x
 clear hd hs x
 refine exit_then ?_
 refine wp_ret ?_
 refine ret_tmp Try.results44 hr e_w ?_
 exact Is.int s4 (by unfold wordAt; rw [byteAt_get g0, byteAt_get g1])

theorem c_r10Read {x0 x1 : Value} {w : World} {q : Int} {l : List UInt8} (h0 : (Is (.int .i64 q)) x0 w) (h1 : (Bs l) x1 w)  :
    Calls Try.prog 30 #[x0, x1] w (Ret (Tup2 (Is (PortV (portRead q l).1)) (Is (.int .i64 (portRead q l).2))) w) := by
 have hlen := Bs.len_le h1
 have w4 := wordAt_bd l 4
 refine enter Try.func30 rfl Try.ntmps30 (k := 2) rfl (by decide) (fun a0 hr hargs => ?_)
 have s0 := sarg h0 (hargs 0 (by decide))
 have s1 := sarg h1 (hargs 1 (by decide))
 clear hargs
 refine wp_seq ?_
 refine wp_reg 64 [[], []] [?b1_0, ?b1_1] mixed hr ?t1 ?o1 ?_
 case o1 =>
  refine oc0 (fun A W hx hf => ?_) ?_
  exact ok_allocS [(portS port0).flatten] [5] zerov65 (by rfl) (by rfl) hx.size
  refine oc0 (fun A W hx hf => ?_) ?_
  exact ok_assignc
  exact OpsOk.nil
 case t1 => exact inferInstance
 clear hr; intro a2 w2 x hr hd hs
 revert s1; revert s0; refine kp2 hs rfl ?_; intro s0 s1
 have s4 := fa ?b1_0 a2 w2 4 (hd 0 4 rfl)
 obtain ⟨g2_4, q2_4⟩ := PxN.at s4; clear s4; have n2_4 := PxS.lt q2_4
 have s4 := q2_4; clear q2_4
 have e_w := x
 clear hd hs x
 refine exit_then ?_
 refine wp_seq ?_
 refine wp_seq ?_
 refine wp_reg 64 [[(0, none)], [(7, some 0)]] [?b3_0, ?b3_1] mixed hr ?t3 ?o3 ?_
 case o3 =>
  refine oc0 (fun A W hx hf => ?_) ?_
  exact ok_movE (a0 := a2) (r0 hf)
  refine oc0 (fun A W hx hf => ?_) ?_
  exact ok_eql (p2 s0 e_w hx (q0 ?b3_0 A W 7 hf)) (ec A (.int .i64 6))
  exact OpsOk.nil
 case t3 => exact inferInstance
 clear hr; intro a4 w4 x hr hd hs
 revert s4; revert s1; revert s0; refine kp3 hs rfl ?_; intro s0 s1 s4
 have s8 := fa ?b3_1 a4 w4 8 (hd 1 8 rfl)
 replace e_w := e_w.trans x
 have e_w2 := x
 clear hd hs x
 refine exit_then ?_
 refine wp_cond_split (show _ = _ from s8) (fun h6 => ?_) (fun h6 => ?_)
 ·
  have h6 : q = 6 := by simpa using h6
  subst h6
  rw [portRead_tcp]
  refine wp_seq ?_
  refine wp_seq ?_
  refine wp_reg 64 [[(1, none)], [(9, some 0)], [(10, some 1)]] [?b6_0, ?b6_1, ?b6_2] mixed hr ?t6 ?o6 ?_
  case o6 =>
   refine oc0 (fun A W hx hf => ?_) ?_
   exact ok_movE (a0 := a4) (r0 hf)
   refine oc0 (fun A W hx hf => ?_) ?_
   exact ok_len_bs Try.underlying22 (p2 s1 e_w hx (q0 ?b6_0 A W 9 hf))
   refine oc0 (fun A W hx hf => ?_) ?_
   exact ok_lss (q0 ?b6_1 A W 10 hf) (ec A (.int .i64 20))
   exact OpsOk.nil
  case t6 => exact inferInstance
  clear hr; intro a7 w7 x hr hd hs
  revert s4; revert s1; refine kp2 hs rfl ?_; intro s1 s4
  clear s0 s8
  have s11 := fa ?b6_2 a7 w7 11 (hd 2 11 rfl)
  replace e_w := e_w.trans x
  replace e_w2 := e_w2.trans x
  clear hd hs x
  refine exit_then ?_
  refine wp_cond_split (show _ = _ from s11) (fun hl => ?_) (fun hl => ?_)
  ·
   have hl : l.length < 20 := by simp at hl; omega
   have hrd : tcpRead l = (port0, 2) := by unfold tcpRead; rw [if_pos hl]
   refine wp_seq ?_
   refine wp_reg_pre (l := [_]) (rest := [_, _]) 64 [[]] [?b9_0] hr ?t9 ?o9 ?_
   case o9 =>
    refine oc0 (fun A W hx hf => ?_) ?_
    exact ok_build0 built65
    exact OpsOk.nil
   case t9 => exact inferInstance
   clear hr; intro a10 w10 x hr hd hs
   revert s4; refine kp1 hs rfl ?_; intro s4
   clear s1 s11
   have s12 := fa ?b9_0 a10 w10 12 (hd 0 12 rfl)
   replace e_w := e_w.trans x
   replace e_w2 := e_w2.trans x
   clear hd hs x
   have z11 := PxS.lt (later e_w2 s4)
   have l11 := (show (g2_4 = 0 ∨ w.heap.size < g2_4) ∧ True from ⟨by omega, trivial⟩)
   refine wl_storeSn hr size65 (later e_w2 s4) s12 (by exact port_len _) (by exact port_one) rfl ?_; clear hr; intro a11 w11 hc hu hr hs
   have hb : Below w.heap.size w10 w11 := hc.below e_w.size l11.1
   revert s4; refine kp1 hs rfl ?_; intro s4
   clear s12
   replace s4 := hu _ _ _ (later e_w2 s4)
   try simp only [List.set_cons_zero, List.set_cons_succ] at s4
   replace e_w := e_w.below (Nat.le_refl _) hb
   clear e_w2
   clear hu hs hc hb
   refine wl_op hr (ok_assignc) inferInstance ?_; clear hr; intro a12 w12 x hr hd hs
   revert s4; refine kp1 hs rfl ?_; intro s4
   have s5 := hd 5 rfl (by decide)
   replace e_w := e_w.trans x
   have e_w11 := x
   clear hd hs x
   refine wpList_nil ?_
   refine exit_then ?_
   refine wp_ret ?_
   refine then_ret ?_
   refine then_ret ?_
   refine ret_cell_tmp Try.results30 hr Try.underlying65 rfl size65 (later e_w11 s4) e_w ?_
   (rw [hrd]; exact ⟨_, _, rfl, rfl, s5⟩)
  ·
   have hl : ¬ l.length < 20 := by simp at hl; omega
   have e12 : (l[12]'(by omega)).toNat = byteAt l 12 := (byteAt_get (by omega)).symm
   have e13 : (l[13]'(by omega)).toNat = byteAt l 13 := (byteAt_get (by omega)).symm
   have b12 := byteAt_bd l 12
   have b13 := byteAt_bd l 13
   have hq12 : IntKind.u8.wrap (((l[12]'(by omega)).toNat : Int).tdiv 16) = ((l[12]'(by omega)).toNat : Int) / 16 := quo_byte (x := (l[12]'(by omega)).toNat) (k := 16) (by have := byte_bd (l[12]'(by omega)); omega)
   refine wp_skip ?_
   refine exit_then ?_
   refine wp_seq ?_
   refine wp_reg 64 [[(1, none)], [(13, some 0)], [(14, some 1)], [(15, some 2)], [(16, some 3)], [(17, some 4)], [(18, some 5)]] [?b13_0, ?b13_1, ?b13_2, ?b13_3, ?b13_4, ?b13_5, ?b13_5] mixed hr ?t13 ?o13 ?_
   case o13 =>
    refine oc0 (fun A W hx hf => ?_) ?_
    exact ok_movE (a0 := a7) (r0 hf)
    refine oc0 (fun A W hx hf => ?_) ?_
    exact ok_index_bs (12) Try.underlying22 size5 (p2 s1 e_w hx (q0 ?b13_0 A W 13 hf)) (ec A (.int .i64 12)) (by first | omega | decide | (simp; done) | (simp; omega))
    refine oc0 (fun A W hx hf => ?_) ?_
    exact ok_loadp Try.underlying5 rfl (q0 ?b13_1 A W 14 hf)
    refine oc0 (fun A W hx hf => ?_) ?_
    exact ok_quo (by decide) (q0 ?b13_2 A W 15 hf) (ec A (.int .u8 16))
    refine oc0 (fun A W hx hf => ?_) ?_
    exact ok_convI Try.underlying5 Try.underlying3 (by rw [hq12]; exact IntWalk.i64_in _ (by omega)) (q0 ?b13_3 A W 16 hf)
    refine oc0 (fun A W hx hf => ?_) ?_
    exact ok_mulI (ec A (.int .i64 4)) (q0 ?b13_4 A W 17 hf) (by rw [hq12]; omega)
    refine oc0 (fun A W hx hf => ?_) ?_
    exact ok_assign (q0 ?b13_5 A W 18 hf)
    exact OpsOk.nil
   case t13 => exact inferInstance
   clear hr; intro a14 w14 x hr hd hs
   revert s4; revert s1; refine kp2 hs rfl ?_; intro s1 s4
   clear s11
   have s6 := fa ?b13_5 a14 w14 6 (hd 6 6 rfl)
   replace e_w := e_w.trans x
   replace e_w2 := e_w2.trans x
   clear hd hs x
   replace s6 := Is.int s6 (show _ = byteAt l 12 / 16 * 4 from by rw [hq12, e12]; omega)
   refine exit_then ?_
   refine wp_seq ?_
   refine wp_seq ?_
   refine wp_reg 64 [[(6, none)], [(19, some 0)]] [?b15_0, ?b15_1] mixed hr ?t15 ?o15 ?_
   case o15 =>
    refine oc0 (fun A W hx hf => ?_) ?_
    exact ok_movE (a0 := a14) (r0 hf)
    refine oc0 (fun A W hx hf => ?_) ?_
    exact ok_lss (p1 s6 hx (q0 ?b15_0 A W 19 hf)) (ec A (.int .i64 20))
    exact OpsOk.nil
   case t15 => exact inferInstance
   clear hr; intro a16 w16 x hr hd hs
   revert s6; revert s4; revert s1; refine kp3 hs rfl ?_; intro s1 s4 s6
   have s20 := fa ?b15_1 a16 w16 20 (hd 1 20 rfl)
   replace e_w := e_w.trans x
   replace e_w2 := e_w2.trans x
   have e_w14 := x
   clear hd hs x
   refine exit_then ?_
   refine wp_cond_split (show _ = _ from s20) (fun hh => ?_) (fun hh => ?_)
   ·
    have hh : byteAt l 12 / 16 * 4 < 20 := by simpa using hh
    have hrd : tcpRead l = (port0, 3) := by unfold tcpRead; rw [if_neg hl, if_pos hh]
    refine wp_seq ?_
    refine wp_reg_pre (l := [_]) (rest := [_, _]) 64 [[]] [?b18_0] hr ?t18 ?o18 ?_
    case o18 =>
     refine oc0 (fun A W hx hf => ?_) ?_
     exact ok_build0 built65
     exact OpsOk.nil
    case t18 => exact inferInstance
    clear hr; intro a19 w19 x hr hd hs
    revert s4; refine kp1 hs rfl ?_; intro s4
    clear s1 s6 s20
    have s21 := fa ?b18_0 a19 w19 21 (hd 0 21 rfl)
    replace e_w := e_w.trans x
    replace e_w2 := e_w2.trans x
    clear e_w14
    clear hd hs x
    have z20 := PxS.lt (later e_w2 s4)
    have l20 := (show (g2_4 = 0 ∨ w.heap.size < g2_4) ∧ True from ⟨by omega, trivial⟩)
    refine wl_storeSn hr size65 (later e_w2 s4) s21 (by exact port_len _) (by exact port_one) rfl ?_; clear hr; intro a20 w20 hc hu hr hs
    have hb : Below w.heap.size w19 w20 := hc.below e_w.size l20.1
    revert s4; refine kp1 hs rfl ?_; intro s4
    clear s21
    replace s4 := hu _ _ _ (later e_w2 s4)
    try simp only [List.set_cons_zero, List.set_cons_succ] at s4
    replace e_w := e_w.below (Nat.le_refl _) hb
    clear e_w2
    clear hu hs hc hb
    refine wl_op hr (ok_assignc) inferInstance ?_; clear hr; intro a21 w21 x hr hd hs
    revert s4; refine kp1 hs rfl ?_; intro s4
    have s5 := hd 5 rfl (by decide)
    replace e_w := e_w.trans x
    have e_w20 := x
    clear hd hs x
    refine wpList_nil ?_
    refine exit_then ?_
    refine wp_ret ?_
    refine then_ret ?_
    refine then_ret ?_
    refine ret_cell_tmp Try.results30 hr Try.underlying65 rfl size65 (later e_w20 s4) e_w ?_
    (rw [hrd]; exact ⟨_, _, rfl, rfl, s5⟩)
   ·
    have hh : ¬ byteAt l 12 / 16 * 4 < 20 := by simpa using hh
    refine wp_skip ?_
    refine exit_then ?_
    refine wp_seq ?_
    refine wp_seq ?_
    refine wp_reg 64 [[(6, none)], [(1, none)], [(23, some 1)], [(22, some 0), (24, some 2)]] [?b22_0, ?b22_1, ?b22_2, ?b22_3] mixed hr ?t22 ?o22 ?_
    case o22 =>
     refine oc0 (fun A W hx hf => ?_) ?_
     exact ok_movE (a0 := a16) (r0 hf)
     refine oc0 (fun A W hx hf => ?_) ?_
     exact ok_movE (a0 := a16) (r0 hf)
     refine oc0 (fun A W hx hf => ?_) ?_
     exact ok_len_bs Try.underlying22 (p2 s1 e_w hx (q0 ?b22_1 A W 23 hf))
     refine oc0 (fun A W hx hf => ?_) ?_
     exact ok_gtr (p2 s6 e_w14 hx (q0 ?b22_0 A W 22 hf)) (q1 ?b22_2 A W 24 hf)
     exact OpsOk.nil
    case t22 => exact inferInstance
    clear hr; intro a23 w23 x hr hd hs
    revert s6; revert s4; revert s1; refine kp3 hs rfl ?_; intro s1 s4 s6
    clear s20
    have s25 := fa ?b22_3 a23 w23 25 (hd 3 25 rfl)
    replace e_w := e_w.trans x
    replace e_w2 := e_w2.trans x
    replace e_w14 := e_w14.trans x
    clear hd hs x
    refine exit_then ?_
    refine wp_cond_split (show _ = _ from s25) (fun ht => ?_) (fun ht => ?_)
    ·
     have ht : byteAt l 12 / 16 * 4 > (l.length : Int) := by simpa using ht
     have hrd : tcpRead l = (port0, 2) := by unfold tcpRead; rw [if_neg hl, if_neg hh, if_pos ht]
     refine wp_seq ?_
     refine wp_reg_pre (l := [_]) (rest := [_, _]) 64 [[]] [?b25_0] hr ?t25 ?o25 ?_
     case o25 =>
      refine oc0 (fun A W hx hf => ?_) ?_
      exact ok_build0 built65
      exact OpsOk.nil
     case t25 => exact inferInstance
     clear hr; intro a26 w26 x hr hd hs
     revert s4; refine kp1 hs rfl ?_; intro s4
     clear s1 s6 s25
     have s26 := fa ?b25_0 a26 w26 26 (hd 0 26 rfl)
     replace e_w := e_w.trans x
     replace e_w2 := e_w2.trans x
     clear e_w14
     clear hd hs x
     have z27 := PxS.lt (later e_w2 s4)
     have l27 := (show (g2_4 = 0 ∨ w.heap.size < g2_4) ∧ True from ⟨by omega, trivial⟩)
     refine wl_storeSn hr size65 (later e_w2 s4) s26 (by exact port_len _) (by exact port_one) rfl ?_; clear hr; intro a27 w27 hc hu hr hs
     have hb : Below w.heap.size w26 w27 := hc.below e_w.size l27.1
     revert s4; refine kp1 hs rfl ?_; intro s4
     clear s26
     replace s4 := hu _ _ _ (later e_w2 s4)
     try simp only [List.set_cons_zero, List.set_cons_succ] at s4
     replace e_w := e_w.below (Nat.le_refl _) hb
     clear e_w2
     clear hu hs hc hb
     refine wl_op hr (ok_assignc) inferInstance ?_; clear hr; intro a28 w28 x hr hd hs
     revert s4; refine kp1 hs rfl ?_; intro s4
     have s5 := hd 5 rfl (by decide)
     replace e_w := e_w.trans x
     have e_w27 := x
     clear hd hs x
     refine wpList_nil ?_
     refine exit_then ?_
     refine wp_ret ?_
     refine then_ret ?_
     refine then_ret ?_
     refine ret_cell_tmp Try.results30 hr Try.underlying65 rfl size65 (later e_w27 s4) e_w ?_
     (rw [hrd]; exact ⟨_, _, rfl, rfl, s5⟩)
    ·
     have ht : ¬ byteAt l 12 / 16 * 4 > (l.length : Int) := by simpa using ht
     have hrd : tcpRead l = (⟨wordAt l 0, wordAt l 2, byteAt l 13 % 64, byteAt l 12 / 16 * 4, (l.length : Int)⟩, 0) := by unfold tcpRead; rw [if_neg hl, if_neg hh, if_neg ht]
     refine wp_skip ?_
     refine exit_then ?_
     refine wp_seq ?_
     refine wp_any_start mixed (fun w29 x => ?_)
     show wpAny _ _ _ _ 15 _ _ _
     replace e_w := e_w.trans x
     replace e_w2 := e_w2.trans x
     replace e_w14 := e_w14.trans x
     have e_w23 := x
     clear x
     refine wp_sel (l := [_, _, _, _, _, _, _, _, _, _, _, _, _, _, _]) 64 _ [false, false, false, false, false, false, false, false, false, false, false, false, false, true, true] [13, 14] [[(1, none)], [(27, some 0)], [(1, none)], [(29, some 2)], [(1, none)], [(31, some 4)], [(32, some 5)], [(33, some 6)], [(34, some 7)], [(6, none)], [(1, none)], [(37, some 10)], [(28, some 1), (30, some 3), (35, some 8), (36, some 9), (38, some 11)], [], []] [?b30_0, ?b30_1, ?b30_2, ?b30_3, ?b30_4, ?b30_5, ?b30_6, ?b30_7, ?b30_8, ?b30_9, ?b30_10, ?b30_11, ?b30_12, VP.top, VP.top] (by kernel_rfl) rfl (by kernel_rfl) hr ?t30 ?o30 ?_
     case o30 =>
      refine lc0 (fun A W hx hf => ?_) ?_
      exact ok_movE (a0 := a23) (r0 hf)
      refine lc0 (fun A W hx hf => ?_) ?_
      exact ok_call2 body44 (c_rtwo (p2 s1 e_w hx (q0 ?b30_0 A W 27 hf)) (show Is (.int .i64 0) (A.eval (.const (.int .i64 0))) _ from rfl) (by decide) (by first | omega | (show 2 ≤ _; omega) | (show 4 ≤ _; omega) | (show 6 ≤ _; omega) | (show 8 ≤ _; omega)))
      refine lc0 (fun A W hx hf => ?_) ?_
      exact ok_movE (a0 := a23) (r0 hf)
      refine lc0 (fun A W hx hf => ?_) ?_
      exact ok_call2 body44 (c_rtwo (p2 s1 e_w hx (q0 ?b30_2 A W 29 hf)) (show Is (.int .i64 2) (A.eval (.const (.int .i64 2))) _ from rfl) (by decide) (by first | omega | (show 2 ≤ _; omega) | (show 4 ≤ _; omega) | (show 6 ≤ _; omega) | (show 8 ≤ _; omega)))
      refine lc0 (fun A W hx hf => ?_) ?_
      exact ok_movE (a0 := a23) (r0 hf)
      refine lc0 (fun A W hx hf => ?_) ?_
      exact ok_index_bs (13) Try.underlying22 size5 (p2 s1 e_w hx (q0 ?b30_4 A W 31 hf)) (ec A (.int .i64 13)) (by first | omega | decide | (simp; done) | (simp; omega))
      refine lc0 (fun A W hx hf => ?_) ?_
      exact ok_loadp Try.underlying5 rfl (q0 ?b30_5 A W 32 hf)
      refine lc0 (fun A W hx hf => ?_) ?_
      exact ok_rem (by decide) (q0 ?b30_6 A W 33 hf) (ec A (.int .u8 64))
      refine lc0 (fun A W hx hf => ?_) ?_
      exact ok_convI Try.underlying5 Try.underlying3 (by rw [Int.tmod_eq_emod_of_nonneg (by omega)]; exact IntWalk.i64_in _ (by omega)) (q0 ?b30_7 A W 34 hf)
      refine lc0 (fun A W hx hf => ?_) ?_
      exact ok_movE (a0 := a23) (r0 hf)
      refine lc0 (fun A W hx hf => ?_) ?_
      exact ok_movE (a0 := a23) (r0 hf)
      refine lc0 (fun A W hx hf => ?_) ?_
      exact ok_len_bs Try.underlying22 (p2 s1 e_w hx (q0 ?b30_10 A W 37 hf))
      refine lc0 (fun A W hx hf => ?_) ?_
      exact ok_buildS [(0, (.tmp 28)), (1, (.tmp 30)), (2, (.tmp 35)), (3, (.tmp 36)), (4, (.tmp 38))] [(0, _), (1, _), (2, _), (3, _), (4, _)] lay65 rfl (PartsC.one (q0 ?b30_1 A W 28 hf) rfl (PartsC.one (q1 ?b30_3 A W 30 hf) rfl (PartsC.one (q2 ?b30_8 A W 35 hf) rfl (PartsC.one (p2 s6 e_w14 hx (q3 ?b30_9 A W 36 hf)) rfl (PartsC.one (q4 ?b30_11 A W 38 hf) rfl (PartsC.nil)))))) (by first | rfl | simp [adrCells, *])
      refine lcs ?_
      refine lcs ?_
      exact lcn
     case t30 => exact inferInstance
     clear hr; intro a31 w31 x hr hd hs
     have u27 := mv s1 (fa ?b30_0 a31 w31 27 (hd 0 27 rfl rfl))
     have u29 := mv s1 (fa ?b30_2 a31 w31 29 (hd 2 29 rfl rfl))
     have u31 := mv s1 (fa ?b30_4 a31 w31 31 (hd 4 31 rfl rfl))
     have u36 := mv s6 (fa ?b30_9 a31 w31 36 (hd 9 36 rfl rfl))
     have u37 := mv s1 (fa ?b30_10 a31 w31 37 (hd 10 37 rfl rfl))
     revert s6; revert s4; revert s1; refine kp3 hs rfl ?_; intro s1 s4 s6
     clear s25
     have s27 := u27; clear u27
     have s29 := u29; clear u29
     have s31 := u31; clear u31
     have s36 := u36; clear u36
     have s37 := u37; clear u37
     have s28 := fa ?b30_1 a31 w31 28 (hd 1 28 rfl rfl)
     have s30 := fa ?b30_3 a31 w31 30 (hd 3 30 rfl rfl)
     have s32 := fa ?b30_5 a31 w31 32 (hd 5 32 rfl rfl)
     have s33 := fa ?b30_6 a31 w31 33 (hd 6 33 rfl rfl)
     have s34 := fa ?b30_7 a31 w31 34 (hd 7 34 rfl rfl)
     have s35 := fa ?b30_8 a31 w31 35 (hd 8 35 rfl rfl)
     have s38 := fa ?b30_11 a31 w31 38 (hd 11 38 rfl rfl)
     have s39 := fa ?b30_12 a31 w31 39 (hd 12 39 rfl rfl)
     replace e_w := e_w.trans x
     replace e_w2 := e_w2.trans x
     replace e_w14 := e_w14.trans x
     clear e_w23
     clear hd hs x
     show wpList _ _ _ [_, _] _ _
     have z32 := PxS.lt (later e_w2 s4)
     have l32 := (show (g2_4 = 0 ∨ w.heap.size < g2_4) ∧ True from ⟨by omega, trivial⟩)
     refine wl_storeSn hr size65 (later e_w2 s4) (Is.conv s39 (show _ = PortV ⟨wordAt l 0, wordAt l 2, byteAt l 13 % 64, byteAt l 12 / 16 * 4, (l.length : Int)⟩ from by rw [Int.tmod_eq_emod_of_nonneg (by omega), e13]; rfl)) (by exact port_len _) (by exact port_one) rfl ?_; clear hr; intro a32 w32 hc hu hr hs
     have hb : Below w.heap.size w31 w32 := hc.below e_w.size l32.1
     revert s4; refine kp1 hs rfl ?_; intro s4
     clear s1 s6 s27 s29 s31 s36 s37 s28 s30 s32 s33 s34 s35 s38 s39
     replace s4 := hu _ _ _ (later e_w2 s4)
     try simp only [List.set_cons_zero, List.set_cons_succ] at s4
     replace e_w := e_w.below (Nat.le_refl _) hb
     clear e_w2
     clear e_w14
     clear hu hs hc hb
     refine wl_op hr (ok_assignc) inferInstance ?_; clear hr; intro a33 w33 x hr hd hs
     revert s4; refine kp1 hs rfl ?_; intro s4
     have s5 := hd 5 rfl (by decide)
     replace e_w := e_w.trans x
     have e_w32 := x
     clear hd hs x
     refine wpList_nil ?_
     refine exit_then ?_
     refine wp_ret ?_
     refine then_ret ?_
     refine ret_cell_tmp Try.results30 hr Try.underlying65 rfl size65 (later e_w32 s4) e_w ?_
     (rw [hrd]; exact ⟨_, _, rfl, rfl, s5⟩)
 ·
  have h6 : q ≠ 6 := by simpa using h6
  refine wp_skip ?_
  refine exit_then ?_
  refine wp_seq ?_
  refine wp_seq ?_
  refine wp_reg 64 [[(0, none)], [(40, some 0)]] [?b34_0, ?b34_1] mixed hr ?t34 ?o34 ?_
  case o34 =>
   refine oc0 (fun A W hx hf => ?_) ?_
   exact ok_movE (a0 := a4) (r0 hf)
   refine oc0 (fun A W hx hf => ?_) ?_
   exact ok_neq (p2 s0 e_w hx (q0 ?b34_0 A W 40 hf)) (ec A (.int .i64 17))
   exact OpsOk.nil
  case t34 => exact inferInstance
  clear hr; intro a35 w35 x hr hd hs
  revert s4; revert s1; refine kp2 hs rfl ?_; intro s1 s4
  clear s0 s8
  have s41 := fa ?b34_1 a35 w35 41 (hd 1 41 rfl)
  replace e_w := e_w.trans x
  replace e_w2 := e_w2.trans x
  clear hd hs x
  refine exit_then ?_
  refine wp_cond_split (show _ = _ from s41) (fun h17 => ?_) (fun h17 => ?_)
  ·
   have h17 : q ≠ 17 := by simpa using h17
   have hrd := portRead_none (l := l) h6 h17
   refine wp_seq ?_
   refine wp_reg_pre (l := [_]) (rest := [_, _]) 64 [[]] [?b37_0] hr ?t37 ?o37 ?_
   case o37 =>
    refine oc0 (fun A W hx hf => ?_) ?_
    exact ok_build0 built65
    exact OpsOk.nil
   case t37 => exact inferInstance
   clear hr; intro a38 w38 x hr hd hs
   revert s4; refine kp1 hs rfl ?_; intro s4
   clear s1 s41
   have s42 := fa ?b37_0 a38 w38 42 (hd 0 42 rfl)
   replace e_w := e_w.trans x
   replace e_w2 := e_w2.trans x
   clear hd hs x
   have z39 := PxS.lt (later e_w2 s4)
   have l39 := (show (g2_4 = 0 ∨ w.heap.size < g2_4) ∧ True from ⟨by omega, trivial⟩)
   refine wl_storeSn hr size65 (later e_w2 s4) s42 (by exact port_len _) (by exact port_one) rfl ?_; clear hr; intro a39 w39 hc hu hr hs
   have hb : Below w.heap.size w38 w39 := hc.below e_w.size l39.1
   revert s4; refine kp1 hs rfl ?_; intro s4
   clear s42
   replace s4 := hu _ _ _ (later e_w2 s4)
   try simp only [List.set_cons_zero, List.set_cons_succ] at s4
   replace e_w := e_w.below (Nat.le_refl _) hb
   clear e_w2
   clear hu hs hc hb
   refine wl_op hr (ok_assignc) inferInstance ?_; clear hr; intro a40 w40 x hr hd hs
   revert s4; refine kp1 hs rfl ?_; intro s4
   have s5 := hd 5 rfl (by decide)
   replace e_w := e_w.trans x
   have e_w39 := x
   clear hd hs x
   refine wpList_nil ?_
   refine exit_then ?_
   refine wp_ret ?_
   refine then_ret ?_
   refine ret_cell_tmp Try.results30 hr Try.underlying65 rfl size65 (later e_w39 s4) e_w ?_
   (rw [hrd]; exact ⟨_, _, rfl, rfl, s5⟩)
  ·
   have h17 : q = 17 := by simpa using h17
   subst h17
   rw [portRead_udp]
   refine wp_skip ?_
   refine exit_then ?_
   refine wp_seq ?_
   refine wp_seq ?_
   refine wp_reg 64 [[(1, none)], [(43, some 0)], [(44, some 1)]] [?b41_0, ?b41_1, ?b41_2] mixed hr ?t41 ?o41 ?_
   case o41 =>
    refine oc0 (fun A W hx hf => ?_) ?_
    exact ok_movE (a0 := a35) (r0 hf)
    refine oc0 (fun A W hx hf => ?_) ?_
    exact ok_len_bs Try.underlying22 (p2 s1 e_w hx (q0 ?b41_0 A W 43 hf))
    refine oc0 (fun A W hx hf => ?_) ?_
    exact ok_lss (q0 ?b41_1 A W 44 hf) (ec A (.int .i64 8))
    exact OpsOk.nil
   case t41 => exact inferInstance
   clear hr; intro a42 w42 x hr hd hs
   revert s4; revert s1; refine kp2 hs rfl ?_; intro s1 s4
   clear s41
   have s45 := fa ?b41_2 a42 w42 45 (hd 2 45 rfl)
   replace e_w := e_w.trans x
   replace e_w2 := e_w2.trans x
   clear hd hs x
   refine exit_then ?_
   refine wp_cond_split (show _ = _ from s45) (fun hl => ?_) (fun hl => ?_)
   ·
    have hl : l.length < 8 := by simp at hl; omega
    have hrd : udpRead l = (port0, 2) := by unfold udpRead; rw [if_pos hl]
    refine wp_seq ?_
    refine wp_reg_pre (l := [_]) (rest := [_, _]) 64 [[]] [?b44_0] hr ?t44 ?o44 ?_
    case o44 =>
     refine oc0 (fun A W hx hf => ?_) ?_
     exact ok_build0 built65
     exact OpsOk.nil
    case t44 => exact inferInstance
    clear hr; intro a45 w45 x hr hd hs
    revert s4; refine kp1 hs rfl ?_; intro s4
    clear s1 s45
    have s46 := fa ?b44_0 a45 w45 46 (hd 0 46 rfl)
    replace e_w := e_w.trans x
    replace e_w2 := e_w2.trans x
    clear hd hs x
    have z46 := PxS.lt (later e_w2 s4)
    have l46 := (show (g2_4 = 0 ∨ w.heap.size < g2_4) ∧ True from ⟨by omega, trivial⟩)
    refine wl_storeSn hr size65 (later e_w2 s4) s46 (by exact port_len _) (by exact port_one) rfl ?_; clear hr; intro a46 w46 hc hu hr hs
    have hb : Below w.heap.size w45 w46 := hc.below e_w.size l46.1
    revert s4; refine kp1 hs rfl ?_; intro s4
    clear s46
    replace s4 := hu _ _ _ (later e_w2 s4)
    try simp only [List.set_cons_zero, List.set_cons_succ] at s4
    replace e_w := e_w.below (Nat.le_refl _) hb
    clear e_w2
    clear hu hs hc hb
    refine wl_op hr (ok_assignc) inferInstance ?_; clear hr; intro a47 w47 x hr hd hs
    revert s4; refine kp1 hs rfl ?_; intro s4
    have s5 := hd 5 rfl (by decide)
    replace e_w := e_w.trans x
    have e_w46 := x
    clear hd hs x
    refine wpList_nil ?_
    refine exit_then ?_
    refine wp_ret ?_
    refine then_ret ?_
    refine ret_cell_tmp Try.results30 hr Try.underlying65 rfl size65 (later e_w46 s4) e_w ?_
    (rw [hrd]; exact ⟨_, _, rfl, rfl, s5⟩)
   ·
    have hl : ¬ l.length < 8 := by simp at hl; omega
    refine wp_skip ?_
    refine exit_then ?_
    refine wp_seq ?_
    refine wp_seq ?_
    refine wp_reg 64 [[(1, none)], [(47, some 0)], [(48, some 1)]] [?b48_0, ?b48_1, ?b48_2] mixed hr ?t48 ?o48 ?_
    case o48 =>
     refine oc0 (fun A W hx hf => ?_) ?_
     exact ok_movE (a0 := a42) (r0 hf)
     refine oc0 (fun A W hx hf => ?_) ?_
     exact ok_call2 body44 (c_rtwo (p2 s1 e_w hx (q0 ?b48_0 A W 47 hf)) (show Is (.int .i64 4) (A.eval (.const (.int .i64 4))) _ from rfl) (by decide) (by first | omega | (show 2 ≤ _; omega) | (show 4 ≤ _; omega) | (show 6 ≤ _; omega) | (show 8 ≤ _; omega)))
     refine oc0 (fun A W hx hf => ?_) ?_
     exact ok_lss (q0 ?b48_1 A W 48 hf) (ec A (.int .i64 8))
     exact OpsOk.nil
    case t48 => exact inferInstance
    clear hr; intro a49 w49 x hr hd hs
    revert s4; revert s1; refine kp2 hs rfl ?_; intro s1 s4
    clear s45
    have s49 := fa ?b48_2 a49 w49 49 (hd 2 49 rfl)
    replace e_w := e_w.trans x
    replace e_w2 := e_w2.trans x
    clear hd hs x
    refine exit_then ?_
    refine wp_cond_split (show _ = _ from s49) (fun hh => ?_) (fun hh => ?_)
    ·
     have hh : wordAt l 4 < 8 := by simpa using hh
     have hrd : udpRead l = (port0, 3) := by unfold udpRead; rw [if_neg hl, if_pos hh]
     refine wp_seq ?_
     refine wp_reg_pre (l := [_]) (rest := [_, _]) 64 [[]] [?b51_0] hr ?t51 ?o51 ?_
     case o51 =>
      refine oc0 (fun A W hx hf => ?_) ?_
      exact ok_build0 built65
      exact OpsOk.nil
     case t51 => exact inferInstance
     clear hr; intro a52 w52 x hr hd hs
     revert s4; refine kp1 hs rfl ?_; intro s4
     clear s1 s49
     have s50 := fa ?b51_0 a52 w52 50 (hd 0 50 rfl)
     replace e_w := e_w.trans x
     replace e_w2 := e_w2.trans x
     clear hd hs x
     have z53 := PxS.lt (later e_w2 s4)
     have l53 := (show (g2_4 = 0 ∨ w.heap.size < g2_4) ∧ True from ⟨by omega, trivial⟩)
     refine wl_storeSn hr size65 (later e_w2 s4) s50 (by exact port_len _) (by exact port_one) rfl ?_; clear hr; intro a53 w53 hc hu hr hs
     have hb : Below w.heap.size w52 w53 := hc.below e_w.size l53.1
     revert s4; refine kp1 hs rfl ?_; intro s4
     clear s50
     replace s4 := hu _ _ _ (later e_w2 s4)
     try simp only [List.set_cons_zero, List.set_cons_succ] at s4
     replace e_w := e_w.below (Nat.le_refl _) hb
     clear e_w2
     clear hu hs hc hb
     refine wl_op hr (ok_assignc) inferInstance ?_; clear hr; intro a54 w54 x hr hd hs
     revert s4; refine kp1 hs rfl ?_; intro s4
     have s5 := hd 5 rfl (by decide)
     replace e_w := e_w.trans x
     have e_w53 := x
     clear hd hs x
     refine wpList_nil ?_
     refine exit_then ?_
     refine wp_ret ?_
     refine then_ret ?_
     refine ret_cell_tmp Try.results30 hr Try.underlying65 rfl size65 (later e_w53 s4) e_w ?_
     (rw [hrd]; exact ⟨_, _, rfl, rfl, s5⟩)
    ·
     have hh : ¬ wordAt l 4 < 8 := by simpa using hh
     refine wp_skip ?_
     refine exit_then ?_
     refine wp_seq ?_
     refine wp_seq ?_
     refine wp_reg 64 [[(1, none)], [(51, some 0)], [(1, none)], [(53, some 2)], [(52, some 1), (54, some 3)]] [?b55_0, ?b55_1, ?b55_2, ?b55_3, ?b55_4] mixed hr ?t55 ?o55 ?_
     case o55 =>
      refine oc0 (fun A W hx hf => ?_) ?_
      exact ok_movE (a0 := a49) (r0 hf)
      refine oc0 (fun A W hx hf => ?_) ?_
      exact ok_call2 body44 (c_rtwo (p2 s1 e_w hx (q0 ?b55_0 A W 51 hf)) (show Is (.int .i64 4) (A.eval (.const (.int .i64 4))) _ from rfl) (by decide) (by first | omega | (show 2 ≤ _; omega) | (show 4 ≤ _; omega) | (show 6 ≤ _; omega) | (show 8 ≤ _; omega)))
      refine oc0 (fun A W hx hf => ?_) ?_
      exact ok_movE (a0 := a49) (r0 hf)
      refine oc0 (fun A W hx hf => ?_) ?_
      exact ok_len_bs Try.underlying22 (p2 s1 e_w hx (q0 ?b55_2 A W 53 hf))
      refine oc0 (fun A W hx hf => ?_) ?_
      exact ok_gtr (q0 ?b55_1 A W 52 hf) (q1 ?b55_3 A W 54 hf)
      exact OpsOk.nil
     case t55 => exact inferInstance
     clear hr; intro a56 w56 x hr hd hs
     revert s4; revert s1; refine kp2 hs rfl ?_; intro s1 s4
     clear s49
     have s55 := fa ?b55_4 a56 w56 55 (hd 4 55 rfl)
     replace e_w := e_w.trans x
     replace e_w2 := e_w2.trans x
     clear hd hs x
     refine exit_then ?_
     refine wp_cond_split (show _ = _ from s55) (fun ht => ?_) (fun ht => ?_)
     ·
      have ht : wordAt l 4 > (l.length : Int) := by simpa using ht
      have hrd : udpRead l = (port0, 2) := by unfold udpRead; rw [if_neg hl, if_neg hh, if_pos ht]
      refine wp_seq ?_
      refine wp_reg_pre (l := [_]) (rest := [_, _]) 64 [[]] [?b58_0] hr ?t58 ?o58 ?_
      case o58 =>
       refine oc0 (fun A W hx hf => ?_) ?_
       exact ok_build0 built65
       exact OpsOk.nil
      case t58 => exact inferInstance
      clear hr; intro a59 w59 x hr hd hs
      revert s4; refine kp1 hs rfl ?_; intro s4
      clear s1 s55
      have s56 := fa ?b58_0 a59 w59 56 (hd 0 56 rfl)
      replace e_w := e_w.trans x
      replace e_w2 := e_w2.trans x
      clear hd hs x
      have z60 := PxS.lt (later e_w2 s4)
      have l60 := (show (g2_4 = 0 ∨ w.heap.size < g2_4) ∧ True from ⟨by omega, trivial⟩)
      refine wl_storeSn hr size65 (later e_w2 s4) s56 (by exact port_len _) (by exact port_one) rfl ?_; clear hr; intro a60 w60 hc hu hr hs
      have hb : Below w.heap.size w59 w60 := hc.below e_w.size l60.1
      revert s4; refine kp1 hs rfl ?_; intro s4
      clear s56
      replace s4 := hu _ _ _ (later e_w2 s4)
      try simp only [List.set_cons_zero, List.set_cons_succ] at s4
      replace e_w := e_w.below (Nat.le_refl _) hb
      clear e_w2
      clear hu hs hc hb
      refine wl_op hr (ok_assignc) inferInstance ?_; clear hr; intro a61 w61 x hr hd hs
      revert s4; refine kp1 hs rfl ?_; intro s4
      have s5 := hd 5 rfl (by decide)
      replace e_w := e_w.trans x
      have e_w60 := x
      clear hd hs x
      refine wpList_nil ?_
      refine exit_then ?_
      refine wp_ret ?_
      refine then_ret ?_
      refine ret_cell_tmp Try.results30 hr Try.underlying65 rfl size65 (later e_w60 s4) e_w ?_
      (rw [hrd]; exact ⟨_, _, rfl, rfl, s5⟩)
     ·
      have ht : ¬ wordAt l 4 > (l.length : Int) := by simpa using ht
      have hrd : udpRead l = (⟨wordAt l 0, wordAt l 2, 0, 8, wordAt l 4⟩, 0) := by unfold udpRead; rw [if_neg hl, if_neg hh, if_neg ht]
      refine wp_skip ?_
      refine exit_then ?_
      refine wp_seq ?_
      refine wp_reg_pre (l := [_, _, _, _, _, _, _]) (rest := [_, _]) 64 [[(1, none)], [(57, some 0)], [(1, none)], [(59, some 2)], [(1, none)], [(61, some 4)], [(58, some 1), (60, some 3), (62, some 5)]] [?b62_0, ?b62_1, ?b62_2, ?b62_3, ?b62_4, ?b62_5, ?b62_6] hr ?t62 ?o62 ?_
      case o62 =>
       refine oc0 (fun A W hx hf => ?_) ?_
       exact ok_movE (a0 := a56) (r0 hf)
       refine oc0 (fun A W hx hf => ?_) ?_
       exact ok_call2 body44 (c_rtwo (p2 s1 e_w hx (q0 ?b62_0 A W 57 hf)) (show Is (.int .i64 0) (A.eval (.const (.int .i64 0))) _ from rfl) (by decide) (by first | omega | (show 2 ≤ _; omega) | (show 4 ≤ _; omega) | (show 6 ≤ _; omega) | (show 8 ≤ _; omega)))
       refine oc0 (fun A W hx hf => ?_) ?_
       exact ok_movE (a0 := a56) (r0 hf)
       refine oc0 (fun A W hx hf => ?_) ?_
       exact ok_call2 body44 (c_rtwo (p2 s1 e_w hx (q0 ?b62_2 A W 59 hf)) (show Is (.int .i64 2) (A.eval (.const (.int .i64 2))) _ from rfl) (by decide) (by first | omega | (show 2 ≤ _; omega) | (show 4 ≤ _; omega) | (show 6 ≤ _; omega) | (show 8 ≤ _; omega)))
       refine oc0 (fun A W hx hf => ?_) ?_
       exact ok_movE (a0 := a56) (r0 hf)
       refine oc0 (fun A W hx hf => ?_) ?_
       exact ok_call2 body44 (c_rtwo (p2 s1 e_w hx (q0 ?b62_4 A W 61 hf)) (show Is (.int .i64 4) (A.eval (.const (.int .i64 4))) _ from rfl) (by decide) (by first | omega | (show 2 ≤ _; omega) | (show 4 ≤ _; omega) | (show 6 ≤ _; omega) | (show 8 ≤ _; omega)))
       refine oc0 (fun A W hx hf => ?_) ?_
       exact ok_buildS [(0, (.tmp 58)), (1, (.tmp 60)), (3, (.const (.int .i64 8))), (4, (.tmp 62))] [(0, _), (1, _), (3, _), (4, _)] lay65 rfl (PartsC.one (q0 ?b62_1 A W 58 hf) rfl (PartsC.one (q1 ?b62_3 A W 60 hf) rfl (PartsC.one (ec A (.int .i64 8)) rfl (PartsC.one (q2 ?b62_5 A W 62 hf) rfl (PartsC.nil))))) (by first | rfl | simp [adrCells, *])
       exact OpsOk.nil
      case t62 => exact inferInstance
      clear hr; intro a63 w63 x hr hd hs
      revert s4; refine kp1 hs rfl ?_; intro s4
      clear s1 s55
      have s63 := fa ?b62_6 a63 w63 63 (hd 6 63 rfl)
      replace e_w := e_w.trans x
      replace e_w2 := e_w2.trans x
      clear hd hs x
      have z64 := PxS.lt (later e_w2 s4)
      have l64 := (show (g2_4 = 0 ∨ w.heap.size < g2_4) ∧ True from ⟨by omega, trivial⟩)
      refine wl_storeSn hr size65 (later e_w2 s4) (show Is (PortV ⟨wordAt l 0, wordAt l 2, 0, 8, wordAt l 4⟩) _ _ from s63) (by exact port_len _) (by exact port_one) rfl ?_; clear hr; intro a64 w64 hc hu hr hs
      have hb : Below w.heap.size w63 w64 := hc.below e_w.size l64.1
      revert s4; refine kp1 hs rfl ?_; intro s4
      clear s63
      replace s4 := hu _ _ _ (later e_w2 s4)
      try simp only [List.set_cons_zero, List.set_cons_succ] at s4
      replace e_w := e_w.below (Nat.le_refl _) hb
      clear e_w2
      clear hu hs hc hb
      refine wl_op hr (ok_assignc) inferInstance ?_; clear hr; intro a65 w65 x hr hd hs
      revert s4; refine kp1 hs rfl ?_; intro s4
      have s5 := hd 5 rfl (by decide)
      replace e_w := e_w.trans x
      have e_w64 := x
      clear hd hs x
      refine wpList_nil ?_
      refine exit_then ?_
      refine wp_ret ?_
      refine ret_cell_tmp Try.results30 hr Try.underlying65 rfl size65 (later e_w64 s4) e_w ?_
      (rw [hrd]; exact ⟨_, _, rfl, rfl, s5⟩)

end Go.Proofs.Ytpjpfmnnefgnbaa
