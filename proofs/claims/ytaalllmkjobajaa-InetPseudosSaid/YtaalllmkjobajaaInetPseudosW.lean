import Derived.Test.YtaalllmkjobajaaA06
import Derived.Test.YtaalllmkjobajaaV
import Derived.Test.YtaalllmkjobajaaM06
namespace Go.Proofs.Ytaalllmkjobajaa
open Go.RowKit
set_option linter.unusedVariables false
set_option maxRecDepth 4000
def D_law_InetPseudos_0 : List Tmp := [10, 38, 39, 40, 41, 42, 43, 44, 45, 46, 47, 48, 49, 50, 51]
theorem law_InetPseudos {x0 x1 x2 x3 : Value} {w : World} {Sa Da : Adr} {p n : Int} (h0 : (Is (AdrV Sa)) x0 w) (h1 : (Is (AdrV Da)) x1 w) (h2 : (Is (.int .u8 p)) x2 w) (h3 : (Is (.int .u16 n)) x3 w) (hA : Sa.b.length = 16) (hD : Da.b.length = 16) (hp : 0 ≤ p ∧ p ≤ 255) (hn : 0 ≤ n ∧ n ≤ 65535) :
    Calls Try.prog 6 #[x0, x1, x2, x3] w (Ret (Is (.bool true)) w) := by
 refine enter Try.func6 rfl Try.ntmps6 (k := 4) rfl (by decide) (fun a0 hr hargs => ?_)
 have s0 := sarg h0 (hargs 0 (by decide))
 have s1 := sarg h1 (hargs 1 (by decide))
 have s2 := sarg h2 (hargs 2 (by decide))
 have s3 := sarg h3 (hargs 3 (by decide))
 clear hargs
 refine wp_seq ?_
 refine wp_reg 67 [[(0, none)], [(1, none)], []] [?b1_0, ?b1_1, ?b1_2] mixed (by kernel_rfl) (by kernel_rfl) hr ?t1 ?o1 ?_
 case o1 =>
  refine oc0 (fun A W hx hf => ?_) ?_
  exact ok_boxA (o1 s0 hx (r0 hf))
  refine oc0 (fun A W hx hf => ?_) ?_
  exact ok_boxA (o1 s1 hx (r0 hf))
  refine oc0 (fun A W hx hf => ?_) ?_
  exact ok_assignc
  exact OpsOk.nil
 case t1 => exact inferInstance
 clear hr; intro a2 w2 x hr hd hs
 revert s2 s3; refine kp2 hs rfl ?_; intro s2 s3
 clear s0 s1
 have s4 := fa ?b1_0 a2 w2 4 (hd 0 4 rfl)
 have s5 := fa ?b1_1 a2 w2 5 (hd 1 5 rfl)
 have e_w := x
 clear hd hs x
 refine exit_then ?_
 refine wp_seq ?_
 refine wp_seq ?_
 refine wp_reg 67 [[], [(11, some 0)], [(12, some 1)], [(4, none), (13, some 2)], [(14, some 3), (13, some 2)], [(5, none), (13, some 2)], [(16, some 5), (13, some 2)], [(15, some 4), (17, some 6), (13, some 2)], [(13, some 2), (18, some 7)]] [?b3_0, ?b3_1, ?b3_1, ?b3_3, ?b3_4, ?b3_5, ?b3_6, ?b3_7, ?b3_8] mixed (by kernel_rfl) (by kernel_rfl) hr ?t3 ?o3 ?_
 case o3 =>
  refine oc0 (fun A W hx hf => ?_) ?_
  exact ok_call0 body9 (c_awake06 )
  refine oc0 (fun A W hx hf => ?_) ?_
  exact ok_not (q0 ?b3_0 A W 11 hf)
  refine oc0 (fun A W hx hf => ?_) ?_
  exact ok_move (q0 ?b3_1 A W 12 hf)
  refine ocg 13 ?_ (fun A W hx hf => ?_) ?_
  rfl
  exact gd_f (q1 ?b3_1 A W 13 hf) (fun hc => ok_fieldAddr Try.underlying35 (i := 0) rfl size4 rfl (o1 s4 hx (r0 hf)))
  refine ocg 13 ?_ (fun A W hx hf => ?_) ?_
  rfl
  exact gd_f (q1 ?b3_1 A W 13 hf) (fun hc => ok_loadc Try.underlying4 rfl (G.get (q0 ?b3_3 A W 14 hf) hc))
  refine ocg 13 ?_ (fun A W hx hf => ?_) ?_
  rfl
  exact gd_f (q1 ?b3_1 A W 13 hf) (fun hc => ok_fieldAddr Try.underlying35 (i := 0) rfl size4 rfl (o1 s5 hx (r0 hf)))
  refine ocg 13 ?_ (fun A W hx hf => ?_) ?_
  rfl
  exact gd_f (q1 ?b3_1 A W 13 hf) (fun hc => ok_loadc Try.underlying4 rfl (G.get (q0 ?b3_5 A W 16 hf) hc))
  refine ocg 13 ?_ (fun A W hx hf => ?_) ?_
  rfl
  exact gd_f (q2 ?b3_1 A W 13 hf) (fun hc => ok_neb Try.underlying4 (G.get (q0 ?b3_4 A W 15 hf) hc) (G.get (q1 ?b3_6 A W 17 hf) hc))
  refine oc0 (fun A W hx hf => ?_) ?_
  exact ok_or (q0 ?b3_1 A W 13 hf) (q1 ?b3_7 A W 18 hf)
  exact OpsOk.nil
 case t3 => exact inferInstance
 clear hr; intro a4 w4 x hr hd hs
 revert s2 s3 s4 s5; refine kp4 hs rfl ?_; intro s2 s3 s4 s5
 have s19 := fa ?b3_8 a4 w4 19 (hd 8 19 rfl)
 replace e_w := e_w.trans x
 have e_w2 := x
 clear hd hs x
 refine exit_then ?_
 refine wp_cond_split (show _ = _ from s19) (fun hl => ?_) (fun hl => ?_)
 · skip
   skip
   refine wp_seq ?_
   refine wp_reg 67 [[], [(20, some 0)]] [?b6_0, ?b6_0] mixed (by kernel_rfl) (by kernel_rfl) hr ?t6 ?o6 ?_
   case o6 =>
    refine oc0 (fun A W hx hf => ?_) ?_
    exact ok_call0 body9 (c_awake06 )
    refine oc0 (fun A W hx hf => ?_) ?_
    exact ok_assign (q0 ?b6_0 A W 20 hf)
    exact OpsOk.nil
   case t6 => exact inferInstance
   clear hr; intro a7 w7 x hr hd hs
   clear s2 s3 s4 s5 s19
   have s8 := fa ?b6_0 a7 w7 8 (hd 1 8 rfl)
   replace e_w := e_w.trans x
   clear e_w2
   clear hd hs x
   refine exit_then ?_
   refine wp_ret ?_
   refine then_ret ?_
   refine ret_tmp Try.results6 hr e_w ?_
   first | with_reducible exact s8 | exact Is.bool s8 (by simp)
 · skip
   skip
   refine wp_skip ?_
   refine exit_then ?_
   refine wp_seq ?_
   have hps := pseudoL_len Sa Da p n hA hD
   refine wp_reg 67 [[(4, none)], [(5, none)], [(2, none)], [(23, some 2)], [(3, none)], [(25, some 4)], [(21, some 0), (22, some 1), (24, some 3), (26, some 5)], [(27, some 6)]] [?b8_0, ?b8_1, ?b8_2, ?b8_3, ?b8_4, ?b8_5, ?b8_6, ?b8_6] mixed (by kernel_rfl) (by kernel_rfl) hr ?t8 ?o8 ?_
   case o8 =>
    refine oc0 (fun A W hx hf => ?_) ?_
    exact ok_loadAll Try.underlying35 rfl size35 (o2 s4 e_w2 hx (r0 hf)) (by simp [adrCells, *])
    refine oc0 (fun A W hx hf => ?_) ?_
    exact ok_loadAll Try.underlying35 rfl size35 (o2 s5 e_w2 hx (r0 hf)) (by simp [adrCells, *])
    refine oc0 (fun A W hx hf => ?_) ?_
    exact ok_movE (a0 := a4) (r0 hf)
    refine oc0 (fun A W hx hf => ?_) ?_
    exact ok_convI Try.underlying5 Try.underlying3 (by exact IntWalk.i64_in _ (by omega)) (p2 s2 e_w hx (q0 ?b8_2 A W 23 hf))
    refine oc0 (fun A W hx hf => ?_) ?_
    exact ok_movE (a0 := a4) (r0 hf)
    refine oc0 (fun A W hx hf => ?_) ?_
    exact ok_convI Try.underlying23 Try.underlying3 (by exact IntWalk.i64_in _ (by omega)) (p2 s3 e_w hx (q0 ?b8_4 A W 25 hf))
    refine oc0 (fun A W hx hf => ?_) ?_
    exact ok_call4 body14 (c_Pseudo (q0 ?b8_0 A W 21 hf) (q1 ?b8_1 A W 22 hf) (q2 ?b8_3 A W 24 hf) (q3 ?b8_5 A W 26 hf) (by assumption) (by assumption) hx.size)
    refine oc0 (fun A W hx hf => ?_) ?_
    exact ok_assign (q0 ?b8_6 A W 27 hf)
    exact OpsOk.nil
   case t8 => exact inferInstance
   clear hr; intro a9 w9 x hr hd hs
   have z_w_w4 := e_w.size
   have z_w2_w4 := e_w2.size
   revert s2 s3 s4 s5; refine kp4 hs rfl ?_; intro s2 s3 s4 s5
   clear s19
   have s9 := fa ?b8_6 a9 w9 9 (hd 7 9 rfl)
   replace e_w := e_w.trans x
   replace e_w2 := e_w2.trans x
   have e_w4 := x
   clear hd hs x
   refine exit_then ?_
   refine wp_seq ?_
   refine wp_seq ?_
   refine wp_reg 67 [[(9, none)], [(4, none)], [(5, none)], [(2, none)], [(31, some 3)], [(3, none)], [(33, some 5)], [(29, some 1), (30, some 2), (32, some 4), (34, some 6)], [(28, some 0), (35, some 7)], [(36, some 8)]] [?b10_0, ?b10_1, ?b10_2, ?b10_3, ?b10_4, ?b10_5, ?b10_6, ?b10_7, ?b10_8, ?b10_9] mixed (by kernel_rfl) (by kernel_rfl) hr ?t10 ?o10 ?_
   case o10 =>
    refine oc0 (fun A W hx hf => ?_) ?_
    exact ok_movE (a0 := a9) (r0 hf)
    refine oc0 (fun A W hx hf => ?_) ?_
    exact ok_loadAll Try.underlying35 rfl size35 (o2 s4 e_w2 hx (r0 hf)) (by simp [adrCells, *])
    refine oc0 (fun A W hx hf => ?_) ?_
    exact ok_loadAll Try.underlying35 rfl size35 (o2 s5 e_w2 hx (r0 hf)) (by simp [adrCells, *])
    refine oc0 (fun A W hx hf => ?_) ?_
    exact ok_movE (a0 := a9) (r0 hf)
    refine oc0 (fun A W hx hf => ?_) ?_
    exact ok_convI Try.underlying5 Try.underlying3 (by exact IntWalk.i64_in _ (by omega)) (p2 s2 e_w hx (q0 ?b10_3 A W 31 hf))
    refine oc0 (fun A W hx hf => ?_) ?_
    exact ok_movE (a0 := a9) (r0 hf)
    refine oc0 (fun A W hx hf => ?_) ?_
    exact ok_convI Try.underlying23 Try.underlying3 (by exact IntWalk.i64_in _ (by omega)) (p2 s3 e_w hx (q0 ?b10_5 A W 33 hf))
    refine oc0 (fun A W hx hf => ?_) ?_
    exact ok_call4 body16 (c_rPseudo (q0 ?b10_1 A W 29 hf) (q1 ?b10_2 A W 30 hf) (q2 ?b10_4 A W 32 hf) (q3 ?b10_6 A W 34 hf) (by assumption) (by assumption) (by omega))
    refine oc0 (fun A W hx hf => ?_) ?_
    exact ok_call2 body15 (c_Same (OwnB.bs (p1 s9 hx (q0 ?b10_0 A W 28 hf))) (q1 ?b10_7 A W 35 hf))
    refine oc0 (fun A W hx hf => ?_) ?_
    exact ok_not (q0 ?b10_8 A W 36 hf)
    exact OpsOk.nil
   case t10 => exact inferInstance
   clear hr; intro a11 w11 x hr hd hs
   revert s2 s3 s4 s5 s9; refine kp5 hs rfl ?_; intro s2 s3 s4 s5 s9
   have s37 := fa ?b10_9 a11 w11 37 (hd 9 37 rfl)
   replace e_w := e_w.trans x
   replace e_w2 := e_w2.trans x
   replace e_w4 := e_w4.trans x
   have e_w9 := x
   clear hd hs x
   refine exit_then ?_
   refine wp_cond_split (show _ = _ from s37) (fun hc12 => ?_) (fun hc12 => ?_)
   · skip
     exfalso; simp at hc12
   · skip
     try simp only [decide_eq_true_eq, decide_eq_false_iff_not, Bool.not_eq_true', Bool.not_eq_false', Bool.not_true, Bool.not_false, Bool.and_eq_true, Bool.and_eq_false_iff, Bool.or_eq_true, Bool.or_eq_false_iff, bne_iff_ne, beq_iff_eq, ne_eq, beq_eq_false_iff_ne, bne_eq_false_iff_eq] at hc12
     refine wp_skip ?_
     refine exit_then ?_
     refine wp_seq ?_
     refine wp_seq ?_
     refine wp_reg 67 [[]] [?b13_0] mixed (by kernel_rfl) (by kernel_rfl) hr ?t13 ?o13 ?_
     case o13 =>
      refine oc0 (fun A W hx hf => ?_) ?_
      exact ok_assignc
      exact OpsOk.nil
     case t13 => exact inferInstance
     clear hr; intro a14 w14 x hr hd hs
     revert s2 s3 s4 s5 s9; refine kp5 hs rfl ?_; intro s2 s3 s4 s5 s9
     clear s37
     have s10 := fa ?b13_0 a14 w14 10 (hd 0 10 rfl)
     replace e_w := e_w.trans x
     replace e_w2 := e_w2.trans x
     replace e_w4 := e_w4.trans x
     replace e_w9 := e_w9.trans x
     clear hd hs x
     refine exit_then ?_
     refine wp_block ?_
     refine wp_loop_inv (fun n A W => ∃ (i : Nat) (l : List UInt8), n = l.length - i ∧ Fr 67 A ∧ Same D_law_InetPseudos_0 a14 A ∧ Ext w W ∧ Ext w2 W ∧ Ext w4 W ∧ (l.length ≤ 1000) ∧ (OwnB w4.heap.size 5 l) (A.eval (.tmp 9)) W ∧ (Is (.int .i64 (i : Int))) (A.eval (.tmp 10)) W) ?start15 ?_
     case start15 =>
      refine ⟨_, 0, pseudoL Sa Da p n, rfl, hr, Same.rfl, e_w, e_w2, e_w4, (by first | assumption | omega), ?_, ?_⟩
      · exact (later e_w9 s9)
      · exact s10
     intro n15 a15 w15 hI
     clear e_w
     clear e_w2
     clear e_w4
     clear e_w9
     clear hr; obtain ⟨i, l, hn15, hr, hs, e_w, e_w2, e_w4, hl2, u9, u10⟩ := hI
     revert s2 s3 s4 s5; refine kp4 hs rfl ?_; intro s2 s3 s4 s5
     clear s9 s10
     have s9 := u9; clear u9
     have s10 := u10; clear u10
     have m15 := hs; clear hs
     refine wp_seq ?_
     refine wp_seq ?_
     refine wp_reg 67 [[(10, none)], [(9, none)], [(39, some 1)], [(38, some 0), (40, some 2)]] [?b16_0, ?b16_1, ?b16_2, ?b16_3] mixed (by kernel_rfl) (by kernel_rfl) hr ?t16 ?o16 ?_
     case o16 =>
      refine oc0 (fun A W hx hf => ?_) ?_
      exact ok_movE (a0 := a15) (r0 hf)
      refine oc0 (fun A W hx hf => ?_) ?_
      exact ok_movE (a0 := a15) (r0 hf)
      refine oc0 (fun A W hx hf => ?_) ?_
      exact ok_len_bs Try.underlying22 (OwnB.bs (p1 s9 hx (q0 ?b16_1 A W 39 hf)))
      refine oc0 (fun A W hx hf => ?_) ?_
      exact ok_lss (p1 s10 hx (q0 ?b16_0 A W 38 hf)) (q1 ?b16_2 A W 40 hf)
      exact OpsOk.nil
     case t16 => exact inferInstance
     clear hr; intro a17 w17 x hr hd hs
     revert s2 s3 s4 s5 s9 s10; refine kp6 hs rfl ?_; intro s2 s3 s4 s5 s9 s10
     have s41 := fa ?b16_3 a17 w17 41 (hd 3 41 rfl)
     replace e_w := e_w.trans x
     replace e_w2 := e_w2.trans x
     replace e_w4 := e_w4.trans x
     have e_w15 := x
     replace m15 := m15.tr hs rfl
     clear hd hs x
     refine exit_then ?_
     refine wp_cond_split (show _ = _ from s41) (fun hlt => ?_) (fun hlt => ?_)
     · skip
       have hlt : i < l.length := by simp at hlt; omega
       refine wp_skip ?_
       refine exit_then ?_
       refine wp_seq ?_
       refine wp_block ?_
       have o9 := OwnB.v s9; clear s9; obtain ⟨v9, s9⟩ := o9
       refine wp_reg_pre (l := [_, _, _, _, _, _, _, _]) (rest := [_]) 67 [[(9, none)], [(10, none)], [(9, none)], [(10, none)], [(46, some 2), (47, some 3)], [(48, some 4)], [(49, some 5)], [(44, some 0), (45, some 1)]] [?b19_0, ?b19_1, ?b19_2, ?b19_3, ?b19_4, ?b19_5, ?b19_6, ?b19_7] (by kernel_rfl) (by kernel_rfl) hr ?t19 ?o19 ?_
       case o19 =>
        refine oc0 (fun A W hx hf => ?_) ?_
        exact ok_movE (a0 := a17) (r0 hf)
        refine oc0 (fun A W hx hf => ?_) ?_
        exact ok_movE (a0 := a17) (r0 hf)
        refine oc0 (fun A W hx hf => ?_) ?_
        exact ok_movE (a0 := a17) (r0 hf)
        refine oc0 (fun A W hx hf => ?_) ?_
        exact ok_movE (a0 := a17) (r0 hf)
        refine oc0 (fun A W hx hf => ?_) ?_
        exact ok_index_bs i Try.underlying22 size5 (OwnB.bs (p2 s9 e_w15 hx (q0 ?b19_2 A W 46 hf)).2) (p2 s10 e_w15 hx (q1 ?b19_3 A W 47 hf)) hlt
        refine oc0 (fun A W hx hf => ?_) ?_
        exact ok_loadp Try.underlying5 rfl (q0 ?b19_4 A W 48 hf)
        refine oc0 (fun A W hx hf => ?_) ?_
        exact ok_xorb (q0 ?b19_5 A W 49 hf) (ec A (.int .u8 255))
        refine oc0 (fun A W hx hf => ?_) ?_
        exact ok_index_v i Try.underlying22 size5 (p2 s9 e_w15 hx (q0 ?b19_0 A W 44 hf)) (p2 s10 e_w15 hx (q1 ?b19_1 A W 45 hf)) hlt
        exact OpsOk.nil
       case t19 => exact inferInstance
       clear hr; intro a20 w20 x hr hd hs
       revert s2 s3 s4 s5 s10 s9; refine kp6 hs rfl ?_; intro s2 s3 s4 s5 s10 s9
       clear s41
       have s50 := fa ?b19_6 a20 w20 50 (hd 6 50 rfl)
       have s51 := fa ?b19_7 a20 w20 51 (hd 7 51 rfl)
       replace e_w := e_w.trans x
       replace e_w2 := e_w2.trans x
       replace e_w4 := e_w4.trans x
       replace e_w15 := e_w15.trans x
       replace m15 := m15.tr hs rfl
       clear hd hs x
       refine wl_store_bs hr info5 (OwnV.own (later e_w15 s9)) s51 (ByteIs.of s50 (by rw [bitXor_eq (by have := byte_bd l[i]; simp [IntKind.max, IntKind.signed, IntKind.bits]; omega) (by decide)]; have := Nat.xor_lt_two_pow (n := 8) (x := ((l[i].toNat : Int)).toNat) (y := (255 : Int).toNat) (by have := byte_bd l[i]; omega) (by decide); omega)) (by exact hlt) ?_; clear hr; intro a21 w21 hc hb hr hd hs
       have o9 := OwnV.set (later e_w15 s9) hs hd; clear hd
       revert s2 s3 s4 s5 s10; refine kp5 hs rfl ?_; intro s2 s3 s4 s5 s10
       clear s9 s50 s51
       have s9 := o9; clear o9
       replace e_w := e_w.below z_w_w4 hb
       replace e_w2 := e_w2.below z_w2_w4 hb
       replace e_w4 := e_w4.below (Nat.le_refl _) hb
       clear e_w15
       replace s10 := anyw (w2 := w21) s10
       replace m15 := m15.tr hs rfl
       clear hs hb hc
       refine wpList_nil ?_
       refine blk_normal ?_
       refine exit_then ?_
       refine wp_reg 67 [[(10, none)], [(42, some 0)], [(43, some 1)]] [?b22_0, ?b22_1, ?b22_1] mixed (by kernel_rfl) (by kernel_rfl) hr ?t22 ?o22 ?_
       case o22 =>
        refine oc0 (fun A W hx hf => ?_) ?_
        exact ok_movE (a0 := a21) (r0 hf)
        refine oc0 (fun A W hx hf => ?_) ?_
        exact ok_addI (p1 s10 hx (q0 ?b22_0 A W 42 hf)) (ec A (.int .i64 1)) (by omega)
        refine oc0 (fun A W hx hf => ?_) ?_
        exact ok_assign (q0 ?b22_1 A W 43 hf)
        exact OpsOk.nil
       case t22 => exact inferInstance
       clear hr; intro a23 w23 x hr hd hs
       revert s2 s3 s4 s5 s9; refine kp5 hs rfl ?_; intro s2 s3 s4 s5 s9
       clear s10
       have s10 := fa ?b22_1 a23 w23 10 (hd 2 10 rfl)
       replace e_w := e_w.trans x
       replace e_w2 := e_w2.trans x
       replace e_w4 := e_w4.trans x
       have e_w21 := x
       replace m15 := m15.tr hs rfl
       clear hd hs x
       refine exit_then ?_
       refine ⟨(fun (i : Nat) (l : List UInt8) => l.length - i) (i + 1) (l.set i (b8 (bitXor .u8 (l[i].toNat : Int) 255))), ?_, ?_⟩
       · (try dsimp only); simp; omega
       refine ⟨i + 1, l.set i (b8 (bitXor .u8 (l[i].toNat : Int) 255)), rfl, hr, m15, e_w, e_w2, e_w4, (by simp; omega), ?_, ?_⟩
       · exact ((later e_w21 s9)).2
       · exact s10
     · skip
       skip
       refine wp_exit ?_
       refine then_exit ?_
       refine then_exit ?_
       refine blk_exit ?_
       refine exit_then ?_
       refine wp_seq ?_
       refine wp_reg 67 [[(4, none)], [(5, none)], [(2, none)], [(54, some 2)], [(3, none)], [(56, some 4)], [(52, some 0), (53, some 1), (55, some 3), (57, some 5)], [(4, none)], [(5, none)], [(2, none)], [(61, some 9)], [(3, none)], [(63, some 11)], [(59, some 7), (60, some 8), (62, some 10), (64, some 12)], [(58, some 6), (65, some 13)], [(66, some 14)]] [?b24_0, ?b24_1, ?b24_2, ?b24_3, ?b24_4, ?b24_5, ?b24_6, ?b24_7, ?b24_8, ?b24_9, ?b24_10, ?b24_11, ?b24_12, ?b24_13, ?b24_14, ?b24_14] mixed (by kernel_rfl) (by kernel_rfl) hr ?t24 ?o24 ?_
       case o24 =>
        refine oc0 (fun A W hx hf => ?_) ?_
        exact ok_loadAll Try.underlying35 rfl size35 (o2 s4 e_w2 hx (r0 hf)) (by simp [adrCells, *])
        refine oc0 (fun A W hx hf => ?_) ?_
        exact ok_loadAll Try.underlying35 rfl size35 (o2 s5 e_w2 hx (r0 hf)) (by simp [adrCells, *])
        refine oc0 (fun A W hx hf => ?_) ?_
        exact ok_movE (a0 := a17) (r0 hf)
        refine oc0 (fun A W hx hf => ?_) ?_
        exact ok_convI Try.underlying5 Try.underlying3 (by exact IntWalk.i64_in _ (by omega)) (p2 s2 e_w hx (q0 ?b24_2 A W 54 hf))
        refine oc0 (fun A W hx hf => ?_) ?_
        exact ok_movE (a0 := a17) (r0 hf)
        refine oc0 (fun A W hx hf => ?_) ?_
        exact ok_convI Try.underlying23 Try.underlying3 (by exact IntWalk.i64_in _ (by omega)) (p2 s3 e_w hx (q0 ?b24_4 A W 56 hf))
        refine oc0 (fun A W hx hf => ?_) ?_
        exact ok_call4 body14 (c_Pseudo (q0 ?b24_0 A W 52 hf) (q1 ?b24_1 A W 53 hf) (q2 ?b24_3 A W 55 hf) (q3 ?b24_5 A W 57 hf) (by assumption) (by assumption) hx.size)
        refine oc0 (fun A W hx hf => ?_) ?_
        exact ok_loadAll Try.underlying35 rfl size35 (o2 s4 e_w2 hx (r0 hf)) (by simp [adrCells, *])
        refine oc0 (fun A W hx hf => ?_) ?_
        exact ok_loadAll Try.underlying35 rfl size35 (o2 s5 e_w2 hx (r0 hf)) (by simp [adrCells, *])
        refine oc0 (fun A W hx hf => ?_) ?_
        exact ok_movE (a0 := a17) (r0 hf)
        refine oc0 (fun A W hx hf => ?_) ?_
        exact ok_convI Try.underlying5 Try.underlying3 (by exact IntWalk.i64_in _ (by omega)) (p2 s2 e_w hx (q0 ?b24_9 A W 61 hf))
        refine oc0 (fun A W hx hf => ?_) ?_
        exact ok_movE (a0 := a17) (r0 hf)
        refine oc0 (fun A W hx hf => ?_) ?_
        exact ok_convI Try.underlying23 Try.underlying3 (by exact IntWalk.i64_in _ (by omega)) (p2 s3 e_w hx (q0 ?b24_11 A W 63 hf))
        refine oc0 (fun A W hx hf => ?_) ?_
        exact ok_call4 body16 (c_rPseudo (q0 ?b24_7 A W 59 hf) (q1 ?b24_8 A W 60 hf) (q2 ?b24_10 A W 62 hf) (q3 ?b24_12 A W 64 hf) (by assumption) (by assumption) (by omega))
        refine oc0 (fun A W hx hf => ?_) ?_
        exact ok_call2 body15 (c_Same (OwnB.bs (q0 ?b24_6 A W 58 hf)) (q1 ?b24_13 A W 65 hf))
        refine oc0 (fun A W hx hf => ?_) ?_
        exact ok_assign (q0 ?b24_14 A W 66 hf)
        exact OpsOk.nil
       case t24 => exact inferInstance
       clear hr; intro a25 w25 x hr hd hs
       have z_w_w17 := e_w.size
       have z_w2_w17 := e_w2.size
       have z_w4_w17 := e_w4.size
       have z_w15_w17 := e_w15.size
       clear s2 s3 s4 s5 s10 s41 s9
       have s8 := fa ?b24_14 a25 w25 8 (hd 15 8 rfl)
       replace e_w := e_w.trans x
       clear e_w2
       clear e_w4
       clear e_w15
       clear hd hs x
       refine exit_then ?_
       refine wp_ret ?_
       refine ret_tmp Try.results6 hr e_w ?_
       first | with_reducible exact s8 | exact Is.bool s8 (by simp)

end Go.Proofs.Ytaalllmkjobajaa
