import Derived.Test.YtaalllmkjobajaaA06
import Derived.Test.YtaalllmkjobajaaV
import Derived.Test.YtaalllmkjobajaaM06
namespace Go.Proofs.Ytaalllmkjobajaa
open Go.RowKit
set_option linter.unusedVariables false
def D_law_InetOrder_0 : List Tmp := [5, 6, 8, 9, 10, 25, 26, 27, 28, 29, 30, 31, 32, 33, 34, 35, 36, 37, 38, 39, 40, 41, 42, 43, 44, 45, 46, 47, 48, 49, 50, 51, 52, 53, 54, 55, 56, 57, 58, 59, 60, 61, 62, 63, 64]
def D_law_InetOrder_1 : List Tmp := [6, 46, 47, 48]
theorem law_InetOrder {x0 x1 : Value} {w : World} {l : List Int} {k : Int} (h0 : (Ns .u16 l) x0 w) (h1 : (Is (.int .u8 k)) x1 w) (hw : ∀ n ∈ l, 0 ≤ n ∧ n ≤ 65535) (hk : 0 ≤ k ∧ k ≤ 255) :
    Calls Try.prog 4 #[x0, x1] w (Ret (Is (.bool true)) w) := by
 have hlen := Ns.len_le h0
 obtain ⟨K, hK, hKl⟩ := tmod_nat (n := l.length) hk.1
 refine enter Try.func4 rfl Try.ntmps4 (k := 2) rfl (by decide) (fun a0 hr hargs => ?_)
 have s0 := sarg h0 (hargs 0 (by decide))
 have s1 := sarg h1 (hargs 1 (by decide))
 clear hargs
 refine wp_seq ?_
 refine wp_reg 72 [[]] [?b1_0] mixed (by kernel_rfl) (by kernel_rfl) hr ?t1 ?o1 ?_
 case o1 =>
  refine oc0 (fun A W hx hf => ?_) ?_
  exact ok_assignc
  exact OpsOk.nil
 case t1 => exact inferInstance
 clear hr; intro a2 w2 x hr hd hs
 revert s0 s1; refine kp2 hs rfl ?_; intro s0 s1
 have e_w := x
 clear hd hs x
 refine exit_then ?_
 refine wp_seq ?_
 refine wp_seq ?_
 refine wp_reg 72 [[], [(11, some 0)], [(12, some 1)], [(0, none), (13, some 2)], [(14, some 3), (13, some 2)], [(15, some 4), (13, some 2)], [(13, some 2), (16, some 5)]] [?b3_0, ?b3_1, ?b3_1, ?b3_3, ?b3_4, ?b3_5, ?b3_6] mixed (by kernel_rfl) (by kernel_rfl) hr ?t3 ?o3 ?_
 case o3 =>
  refine oc0 (fun A W hx hf => ?_) ?_
  exact ok_call0 body9 (c_awake06 )
  refine oc0 (fun A W hx hf => ?_) ?_
  exact ok_not (q0 ?b3_0 A W 11 hf)
  refine oc0 (fun A W hx hf => ?_) ?_
  exact ok_move (q0 ?b3_1 A W 12 hf)
  refine ocg 13 ?_ (fun A W hx hf => ?_) ?_
  rfl
  exact gd_f (q1 ?b3_1 A W 13 hf) (fun hc => ok_movE (a0 := a2) (r0 hf))
  refine ocg 13 ?_ (fun A W hx hf => ?_) ?_
  rfl
  exact gd_f (q1 ?b3_1 A W 13 hf) (fun hc => ok_len_ns Try.underlying30 (p2 s0 e_w hx (G.get (q0 ?b3_3 A W 14 hf) hc)))
  refine ocg 13 ?_ (fun A W hx hf => ?_) ?_
  rfl
  exact gd_f (q1 ?b3_1 A W 13 hf) (fun hc => ok_gtr (G.get (q0 ?b3_4 A W 15 hf) hc) (ec A (.int .i64 300)))
  refine oc0 (fun A W hx hf => ?_) ?_
  exact ok_or (q0 ?b3_1 A W 13 hf) (q1 ?b3_5 A W 16 hf)
  exact OpsOk.nil
 case t3 => exact inferInstance
 clear hr; intro a4 w4 x hr hd hs
 revert s0 s1; refine kp2 hs rfl ?_; intro s0 s1
 have s17 := fa ?b3_6 a4 w4 17 (hd 6 17 rfl)
 replace e_w := e_w.trans x
 clear hd hs x
 refine exit_then ?_
 refine wp_cond_split (show _ = _ from s17) (fun hl => ?_) (fun hl => ?_)
 · skip
   skip
   refine wp_seq ?_
   refine wp_reg 72 [[], [(18, some 0)]] [?b6_0, ?b6_0] mixed (by kernel_rfl) (by kernel_rfl) hr ?t6 ?o6 ?_
   case o6 =>
    refine oc0 (fun A W hx hf => ?_) ?_
    exact ok_call0 body9 (c_awake06 )
    refine oc0 (fun A W hx hf => ?_) ?_
    exact ok_assign (q0 ?b6_0 A W 18 hf)
    exact OpsOk.nil
   case t6 => exact inferInstance
   clear hr; intro a7 w7 x hr hd hs
   clear s0 s1 s17
   have s4 := fa ?b6_0 a7 w7 4 (hd 1 4 rfl)
   replace e_w := e_w.trans x
   clear hd hs x
   refine exit_then ?_
   refine wp_ret ?_
   refine then_ret ?_
   refine ret_tmp Try.results4 hr e_w ?_
   first | with_reducible exact s4 | exact Is.bool s4 (order_end hw)
 · skip
   have hl : l.length ≤ 300 := by simp at hl; omega
   refine wp_skip ?_
   refine exit_then ?_
   refine wp_seq ?_
   refine wp_reg 72 [[]] [?b8_0] mixed (by kernel_rfl) (by kernel_rfl) hr ?t8 ?o8 ?_
   case o8 =>
    refine oc0 (fun A W hx hf => ?_) ?_
    exact ok_assignv (OwnBA 0 w4.heap.size 5 []) (fun _ => ownBA_nil)
    exact OpsOk.nil
   case t8 => exact inferInstance
   clear hr; intro a9 w9 x hr hd hs
   have z_w_w4 := e_w.size
   revert s0 s1; refine kp2 hs rfl ?_; intro s0 s1
   clear s17
   have s5 := fa ?b8_0 a9 w9 5 (hd 0 5 rfl)
   replace e_w := e_w.trans x
   have e_w4 := x
   clear hd hs x
   refine exit_then ?_
   refine wp_seq ?_
   refine wp_reg 72 [[]] [?b10_0] mixed (by kernel_rfl) (by kernel_rfl) hr ?t10 ?o10 ?_
   case o10 =>
    refine oc0 (fun A W hx hf => ?_) ?_
    exact ok_assignv (OwnBA 0 w4.heap.size 5 []) (fun _ => ownBA_nil)
    exact OpsOk.nil
   case t10 => exact inferInstance
   clear hr; intro a11 w11 x hr hd hs
   revert s0 s1 s5; refine kp3 hs rfl ?_; intro s0 s1 s5
   have s6 := fa ?b10_0 a11 w11 6 (hd 0 6 rfl)
   replace e_w := e_w.trans x
   replace e_w4 := e_w4.trans x
   have e_w9 := x
   clear hd hs x
   refine exit_then ?_
   refine wp_seq ?_
   refine wp_reg 72 [[(1, none)], [(19, some 0)], [(0, none)], [(21, some 2)], [(22, some 3)], [(20, some 1), (23, some 4)], [(24, some 5)]] [?b12_0, ?b12_1, ?b12_2, ?b12_3, ?b12_4, ?b12_5, ?b12_5] mixed (by kernel_rfl) (by kernel_rfl) hr ?t12 ?o12 ?_
   case o12 =>
    refine oc0 (fun A W hx hf => ?_) ?_
    exact ok_movE (a0 := a11) (r0 hf)
    refine oc0 (fun A W hx hf => ?_) ?_
    exact ok_convI Try.underlying5 Try.underlying3 (by exact IntWalk.i64_in _ (by omega)) (p2 s1 e_w hx (q0 ?b12_0 A W 19 hf))
    refine oc0 (fun A W hx hf => ?_) ?_
    exact ok_movE (a0 := a11) (r0 hf)
    refine oc0 (fun A W hx hf => ?_) ?_
    exact ok_len_ns Try.underlying30 (p2 s0 e_w hx (q0 ?b12_2 A W 21 hf))
    refine oc0 (fun A W hx hf => ?_) ?_
    exact ok_addI (q0 ?b12_3 A W 22 hf) (ec A (.int .i64 1)) (by omega)
    refine oc0 (fun A W hx hf => ?_) ?_
    exact ok_rem (by omega) (q0 ?b12_1 A W 20 hf) (q1 ?b12_4 A W 23 hf)
    refine oc0 (fun A W hx hf => ?_) ?_
    exact ok_assign (q0 ?b12_5 A W 24 hf)
    exact OpsOk.nil
   case t12 => exact inferInstance
   clear hr; intro a13 w13 x hr hd hs
   revert s0 s5 s6; refine kp3 hs rfl ?_; intro s0 s5 s6
   clear s1
   have s7 := fa ?b12_5 a13 w13 7 (hd 6 7 rfl)
   replace e_w := e_w.trans x
   replace e_w4 := e_w4.trans x
   replace e_w9 := e_w9.trans x
   have e_w11 := x
   clear hd hs x
   replace s7 := Is.int s7 hK
   refine exit_then ?_
   refine wp_seq ?_
   refine wp_seq ?_
   refine wp_reg 72 [[]] [?b14_0] mixed (by kernel_rfl) (by kernel_rfl) hr ?t14 ?o14 ?_
   case o14 =>
    refine oc0 (fun A W hx hf => ?_) ?_
    exact ok_assignc
    exact OpsOk.nil
   case t14 => exact inferInstance
   clear hr; intro a15 w15 x hr hd hs
   revert s0 s5 s6 s7; refine kp4 hs rfl ?_; intro s0 s5 s6 s7
   have s8 := fa ?b14_0 a15 w15 8 (hd 0 8 rfl)
   replace e_w := e_w.trans x
   replace e_w4 := e_w4.trans x
   replace e_w9 := e_w9.trans x
   replace e_w11 := e_w11.trans x
   have e_w13 := x
   clear hd hs x
   refine exit_then ?_
   refine wp_block ?_
   refine wp_loop_inv (fun n A W => ∃ (i β γ : Nat), n = l.length - i ∧ Fr 72 A ∧ Same D_law_InetOrder_0 a15 A ∧ Ext w W ∧ Ext w4 W ∧ (i ≤ l.length) ∧ (β = 0 ∨ γ = 0 ∨ β ≠ γ) ∧ (OwnBA β w4.heap.size 5 (enc (l.take i))) (A.eval (.tmp 5)) W ∧ (OwnBA γ w4.heap.size 5 (encB l K i)) (A.eval (.tmp 6)) W ∧ (Is (.int .i64 (i : Int))) (A.eval (.tmp 8)) W) ?start16 ?_
   case start16 =>
    refine ⟨_, 0, 0, 0, rfl, hr, Same.rfl, e_w, e_w4, (by first | assumption | omega), (by first | assumption | omega), ?_, ?_, ?_⟩
    · exact OwnBA.cast (later e_w9 s5) (by simp [enc])
    · exact OwnBA.cast (later e_w11 s6) (by simp [encB])
    · exact s8
   intro n16 a16 w16 hI
   clear e_w
   clear e_w4
   clear e_w9
   clear e_w11
   clear e_w13
   clear hr; obtain ⟨i, β, γ, hn16, hr, hs, e_w, e_w4, hi, hne, u5, u6, u8⟩ := hI
   revert s0 s7; refine kp2 hs rfl ?_; intro s0 s7
   clear s5 s6 s8
   have s5 := u5; clear u5
   have s6 := u6; clear u6
   have s8 := u8; clear u8
   replace s7 := anyw (w2 := w16) s7
   have m16 := hs; clear hs
   refine wp_seq ?_
   refine wp_seq ?_
   refine wp_reg 72 [[(8, none)], [(0, none)], [(26, some 1)], [(25, some 0), (27, some 2)]] [?b17_0, ?b17_1, ?b17_2, ?b17_3] mixed (by kernel_rfl) (by kernel_rfl) hr ?t17 ?o17 ?_
   case o17 =>
    refine oc0 (fun A W hx hf => ?_) ?_
    exact ok_movE (a0 := a16) (r0 hf)
    refine oc0 (fun A W hx hf => ?_) ?_
    exact ok_movE (a0 := a16) (r0 hf)
    refine oc0 (fun A W hx hf => ?_) ?_
    exact ok_len_ns Try.underlying30 (p2 s0 e_w hx (q0 ?b17_1 A W 26 hf))
    refine oc0 (fun A W hx hf => ?_) ?_
    exact ok_lss (p1 s8 hx (q0 ?b17_0 A W 25 hf)) (q1 ?b17_2 A W 27 hf)
    exact OpsOk.nil
   case t17 => exact inferInstance
   clear hr; intro a18 w18 x hr hd hs
   revert s0 s5 s6 s8 s7; refine kp5 hs rfl ?_; intro s0 s5 s6 s8 s7
   have s28 := fa ?b17_3 a18 w18 28 (hd 3 28 rfl)
   replace e_w := e_w.trans x
   replace e_w4 := e_w4.trans x
   have e_w16 := x
   replace m16 := m16.tr hs rfl
   clear hd hs x
   refine exit_then ?_
   refine wp_cond_split (show _ = _ from s28) (fun hlt => ?_) (fun hlt => ?_)
   · skip
     have hlt : i < l.length := by simp at hlt; omega
     have hz := hw l[i] (List.getElem_mem _)
     have hrl : l.length - 1 - i < l.length := by omega
     have hz2 := hw l[l.length - 1 - i] (List.getElem_mem _)
     have hbl := encB_len l K i
     have hel := enc_len (l.take i)
     simp only [List.length_take] at hel
     refine wp_skip ?_
     refine exit_then ?_
     refine wp_seq ?_
     refine wp_block ?_
     refine wp_seq ?_
     refine wp_reg 72 [[(0, none)], [(8, none)], [(31, some 0), (32, some 1)], [(33, some 2)], [(34, some 3)]] [?b20_0, ?b20_1, ?b20_2, ?b20_3, ?b20_3] mixed (by kernel_rfl) (by kernel_rfl) hr ?t20 ?o20 ?_
     case o20 =>
      refine oc0 (fun A W hx hf => ?_) ?_
      exact ok_movE (a0 := a18) (r0 hf)
      refine oc0 (fun A W hx hf => ?_) ?_
      exact ok_movE (a0 := a18) (r0 hf)
      refine oc0 (fun A W hx hf => ?_) ?_
      exact ok_index_ns (_) Try.underlying30 size23 (p2 s0 e_w hx (q0 ?b20_0 A W 31 hf)) (p2 s8 e_w16 hx (q1 ?b20_1 A W 32 hf)) (by first | omega | decide | (simp; done) | (simp; omega))
      refine oc0 (fun A W hx hf => ?_) ?_
      exact ok_loadp Try.underlying23 rfl (q0 ?b20_2 A W 33 hf)
      refine oc0 (fun A W hx hf => ?_) ?_
      exact ok_assign (q0 ?b20_3 A W 34 hf)
      exact OpsOk.nil
     case t20 => exact inferInstance
     clear hr; intro a21 w21 x hr hd hs
     revert s0 s5 s6 s8 s7; refine kp5 hs rfl ?_; intro s0 s5 s6 s8 s7
     clear s28
     have s9 := fa ?b20_3 a21 w21 9 (hd 4 9 rfl)
     replace e_w := e_w.trans x
     replace e_w4 := e_w4.trans x
     replace e_w16 := e_w16.trans x
     replace m16 := m16.tr hs rfl
     clear hd hs x
     refine exit_then ?_
     refine wp_seq ?_
     refine wp_reg 72 [[(0, none)], [(0, none)], [(36, some 1)], [(37, some 2)], [(8, none)], [(38, some 3), (39, some 4)], [(35, some 0), (40, some 5)], [(41, some 6)], [(42, some 7)]] [?b22_0, ?b22_1, ?b22_2, ?b22_3, ?b22_4, ?b22_5, ?b22_6, ?b22_7, ?b22_7] mixed (by kernel_rfl) (by kernel_rfl) hr ?t22 ?o22 ?_
     case o22 =>
      refine oc0 (fun A W hx hf => ?_) ?_
      exact ok_movE (a0 := a21) (r0 hf)
      refine oc0 (fun A W hx hf => ?_) ?_
      exact ok_movE (a0 := a21) (r0 hf)
      refine oc0 (fun A W hx hf => ?_) ?_
      exact ok_len_ns Try.underlying30 (p2 s0 e_w hx (q0 ?b22_1 A W 36 hf))
      refine oc0 (fun A W hx hf => ?_) ?_
      exact ok_subI (q0 ?b22_2 A W 37 hf) (ec A (.int .i64 1)) (by omega)
      refine oc0 (fun A W hx hf => ?_) ?_
      exact ok_movE (a0 := a21) (r0 hf)
      refine oc0 (fun A W hx hf => ?_) ?_
      exact ok_subI (q0 ?b22_3 A W 38 hf) (p2 s8 e_w16 hx (q1 ?b22_4 A W 39 hf)) (by omega)
      refine oc0 (fun A W hx hf => ?_) ?_
      exact ok_index_ns (l.length - 1 - i) Try.underlying30 size23 (p2 s0 e_w hx (q0 ?b22_0 A W 35 hf)) (Is.int (q1 ?b22_5 A W 40 hf) (by omega)) (by first | omega | decide | (simp; done) | (simp; omega))
      refine oc0 (fun A W hx hf => ?_) ?_
      exact ok_loadp Try.underlying23 rfl (q0 ?b22_6 A W 41 hf)
      refine oc0 (fun A W hx hf => ?_) ?_
      exact ok_assign (q0 ?b22_7 A W 42 hf)
      exact OpsOk.nil
     case t22 => exact inferInstance
     clear hr; intro a23 w23 x hr hd hs
     revert s0 s5 s6 s8 s7 s9; refine kp6 hs rfl ?_; intro s0 s5 s6 s8 s7 s9
     have s10 := fa ?b22_7 a23 w23 10 (hd 8 10 rfl)
     replace e_w := e_w.trans x
     replace e_w4 := e_w4.trans x
     replace e_w16 := e_w16.trans x
     have e_w21 := x
     replace m16 := m16.tr hs rfl
     clear hd hs x
     refine exit_then ?_
     refine wp_seq ?_
     refine wp_seq ?_
     refine wp_reg 72 [[(8, none)], [(7, none)], [(43, some 0), (44, some 1)]] [?b24_0, ?b24_1, ?b24_2] mixed (by kernel_rfl) (by kernel_rfl) hr ?t24 ?o24 ?_
     case o24 =>
      refine oc0 (fun A W hx hf => ?_) ?_
      exact ok_movE (a0 := a23) (r0 hf)
      refine oc0 (fun A W hx hf => ?_) ?_
      exact ok_movE (a0 := a23) (r0 hf)
      refine oc0 (fun A W hx hf => ?_) ?_
      exact ok_eql (p2 s8 e_w16 hx (q0 ?b24_0 A W 43 hf)) (p2 s7 e_w16 hx (q1 ?b24_1 A W 44 hf))
      exact OpsOk.nil
     case t24 => exact inferInstance
     clear hr; intro a25 w25 x hr hd hs
     revert s0 s5 s6 s8 s7 s9; refine kp6 hs rfl ?_; intro s0 s5 s6 s8 s7 s9
     revert s10; refine kp1 hs rfl ?_; intro s10
     have s45 := fa ?b24_2 a25 w25 45 (hd 2 45 rfl)
     replace e_w := e_w.trans x
     replace e_w4 := e_w4.trans x
     replace e_w16 := e_w16.trans x
     replace e_w21 := e_w21.trans x
     have e_w23 := x
     replace m16 := m16.tr hs rfl
     clear hd hs x
     refine exit_then ?_
     refine wp_cut (fun A W => ∃ (β γ : Nat), Fr 72 A ∧ Same D_law_InetOrder_1 a25 A ∧ Ext w W ∧ Ext w4 W ∧ (β = 0 ∨ γ = 0 ∨ β ≠ γ) ∧ (OwnBA β w4.heap.size 5 (enc (l.take i))) (A.eval (.tmp 5)) W ∧ (OwnBA γ w4.heap.size 5 (encB l K i ++ if i = K then [0, 0] else [])) (A.eval (.tmp 6)) W) ?cut26 ?_
     case cut26 =>
      have m26 : Same D_law_InetOrder_1 a25 a25 := Same.rfl
      refine wp_cond_split (show _ = _ from s45) (fun hat => ?_) (fun hat => ?_)
      · skip
        have hat : i = K := by simp at hat; omega
        refine wp_reg_pre (l := [_, _]) (rest := [_, _]) 72 [[(6, none)], []] [?b28_0, ?b28_1] (by kernel_rfl) (by kernel_rfl) hr ?t28 ?o28 ?_
        case o28 =>
         refine oc0 (fun A W hx hf => ?_) ?_
         exact ok_movE (a0 := a25) (r0 hf)
         refine oc0 (fun A W hx hf => ?_) ?_
         exact ok_buildBs [(.const (.int .u8 0)), (.const (.int .u8 0))] [_, _] Try.underlying22 size5 zero5 rfl rfl (by decide) (PartsOk.cons (show ByteIs 0 _ _ from rfl) (PartsOk.cons (show ByteIs 0 _ _ from rfl) (PartsOk.nil)))
         exact OpsOk.nil
        case t28 => exact inferInstance
        clear hr; intro a29 w29 x hr hd hs
        have u46 := mv s6 (fa ?b28_0 a29 w29 46 (hd 0 46 rfl))
        revert s0 s5 s6 s8 s7 s9; refine kp6 hs rfl ?_; intro s0 s5 s6 s8 s7 s9
        revert s10; refine kp1 hs rfl ?_; intro s10
        clear s45
        have s46 := u46; clear u46
        have s47 := fa ?b28_1 a29 w29 47 (hd 1 47 rfl)
        replace e_w := e_w.trans x
        replace e_w4 := e_w4.trans x
        replace e_w16 := e_w16.trans x
        replace e_w21 := e_w21.trans x
        replace e_w23 := e_w23.trans x
        replace m16 := m16.tr hs rfl
        replace m26 := m26.tr hs rfl
        clear hd hs x
        have l30 := OwnBA.lt (later e_w16 s46)
        have l30_5 := OwnBA.lt (later e_w16 s5)
        refine wl_append_bsA hr (by decide) Try.underlying22 info5 rfl (later e_w16 s46) s47 e_w4.size (by first | (simp; omega) | (split <;> simp <;> omega)) ?_; clear hr; intro g30 a30 w30 hg30 hc hr hd hs
        have hb := hc.below e_w4.size l30.1
        revert s0 s5 s8 s7 s9 s10; refine kp6 hs rfl ?_; intro s0 s5 s8 s7 s9 s10
        clear s6 s46 s47
        replace s5 := OwnBA.other (later e_w16 s5) hc (by omega)
        have s48 := hd
        replace e_w := e_w.below z_w_w4 hb
        replace e_w4 := e_w4.below (Nat.le_refl _) hb
        clear e_w16
        clear e_w21
        clear e_w23
        replace s8 := anyw (w2 := w30) s8
        replace s7 := anyw (w2 := w30) s7
        replace s9 := anyw (w2 := w30) s9
        replace s10 := anyw (w2 := w30) s10
        replace m16 := m16.tr hs rfl
        replace m26 := m26.tr hs rfl
        clear hd hs hb hc
        refine wl_op hr (ok_assign s48) inferInstance ?_; clear hr; intro a31 w31 x hr hd hs
        revert s0 s5 s8 s7 s9 s10; refine kp6 hs rfl ?_; intro s0 s5 s8 s7 s9 s10
        clear s48
        have s6 := hd 6 rfl (by decide)
        replace e_w := e_w.trans x
        replace e_w4 := e_w4.trans x
        have e_w30 := x
        replace m16 := m16.tr hs rfl
        replace m26 := m26.tr hs rfl
        clear hd hs x
        refine wpList_nil ?_
        refine exit_then ?_
        refine ⟨β, g30, hr, m26, e_w, e_w4, (by first | assumption | omega), ?_, ?_⟩
        · exact (later e_w30 s5)
        · first | exact OwnBA.cast s6 (by rw [if_pos hat]) | exact OwnBA.cast s6 (by rw [if_neg hat]; simp)
      · skip
        have hat : ¬ i = K := by simp at hat; omega
        refine wp_skip ?_
        refine exit_then ?_
        refine ⟨β, γ, hr, m26, e_w, e_w4, (by first | assumption | omega), ?_, ?_⟩
        · exact (later e_w16 s5)
        · first | exact OwnBA.cast (later e_w16 s6) (by rw [if_pos hat]) | exact OwnBA.cast (later e_w16 s6) (by rw [if_neg hat]; simp)
     intro a26 w26 hI
     clear e_w
     clear e_w4
     clear e_w16
     clear e_w21
     clear e_w23
     clear hr; obtain ⟨β, γ, hr, hs, e_w, e_w4, hne, u5, u6⟩ := hI
     revert s0 s8 s7 s9 s10; refine kp5 hs rfl ?_; intro s0 s8 s7 s9 s10
     clear s5 s6 s45
     have s5 := u5; clear u5
     have s6 := u6; clear u6
     replace s8 := anyw (w2 := w26) s8
     replace s7 := anyw (w2 := w26) s7
     replace s9 := anyw (w2 := w26) s9
     replace s10 := anyw (w2 := w26) s10
     replace m16 := m16.tr hs rfl
     clear hs
     refine wp_seq ?_
     refine wp_reg_pre (l := [_, _, _, _, _, _, _]) (rest := [_, _]) 72 [[(5, none)], [(9, none)], [(50, some 1)], [(51, some 2)], [(9, none)], [(53, some 4)], [(52, some 3), (54, some 5)]] [?b32_0, ?b32_1, ?b32_2, ?b32_3, ?b32_4, ?b32_5, ?b32_6] (by kernel_rfl) (by kernel_rfl) hr ?t32 ?o32 ?_
     case o32 =>
      refine oc0 (fun A W hx hf => ?_) ?_
      exact ok_movE (a0 := a26) (r0 hf)
      refine oc0 (fun A W hx hf => ?_) ?_
      exact ok_movE (a0 := a26) (r0 hf)
      refine oc0 (fun A W hx hf => ?_) ?_
      exact ok_shr 8 (by decide) (p1 s9 hx (q0 ?b32_1 A W 50 hf)) (ec A (.int .u64 8))
      refine oc0 (fun A W hx hf => ?_) ?_
      exact ok_conv8 Try.underlying23 Try.underlying5 (q0 ?b32_2 A W 51 hf)
      refine oc0 (fun A W hx hf => ?_) ?_
      exact ok_movE (a0 := a26) (r0 hf)
      refine oc0 (fun A W hx hf => ?_) ?_
      exact ok_conv8 Try.underlying23 Try.underlying5 (p1 s9 hx (q0 ?b32_4 A W 53 hf))
      refine oc0 (fun A W hx hf => ?_) ?_
      exact ok_buildBs [(.tmp 52), (.tmp 54)] [_, _] Try.underlying22 size5 zero5 rfl rfl (by decide) (PartsOk.cons (q0 ?b32_3 A W 52 hf) (PartsOk.cons (q1 ?b32_5 A W 54 hf) (PartsOk.nil)))
      exact OpsOk.nil
     case t32 => exact inferInstance
     clear hr; intro a33 w33 x hr hd hs
     have u49 := mv s5 (fa ?b32_0 a33 w33 49 (hd 0 49 rfl))
     revert s0 s5 s6 s8 s7 s10; refine kp6 hs rfl ?_; intro s0 s5 s6 s8 s7 s10
     clear s9
     have s49 := u49; clear u49
     have s55 := fa ?b32_6 a33 w33 55 (hd 6 55 rfl)
     replace e_w := e_w.trans x
     replace e_w4 := e_w4.trans x
     have e_w26 := x
     replace m16 := m16.tr hs rfl
     clear hd hs x
     have l34 := OwnBA.lt (later e_w26 s49)
     have l34_6 := OwnBA.lt (later e_w26 s6)
     refine wl_append_bsA hr (by decide) Try.underlying22 info5 rfl (later e_w26 s49) s55 e_w4.size (by first | (simp; omega) | (split <;> simp <;> omega)) ?_; clear hr; intro g34 a34 w34 hg34 hc hr hd hs
     have hb := hc.below e_w4.size l34.1
     revert s0 s6 s8 s7 s10; refine kp5 hs rfl ?_; intro s0 s6 s8 s7 s10
     clear s5 s49 s55
     replace s6 := OwnBA.other (later e_w26 s6) hc (by omega)
     have s56 := hd
     replace e_w := e_w.below z_w_w4 hb
     replace e_w4 := e_w4.below (Nat.le_refl _) hb
     clear e_w26
     replace s8 := anyw (w2 := w34) s8
     replace s7 := anyw (w2 := w34) s7
     replace s10 := anyw (w2 := w34) s10
     replace m16 := m16.tr hs rfl
     clear hd hs hb hc
     refine wl_op hr (ok_assign s56) inferInstance ?_; clear hr; intro a35 w35 x hr hd hs
     revert s0 s6 s8 s7 s10; refine kp5 hs rfl ?_; intro s0 s6 s8 s7 s10
     clear s56
     have s5 := hd 5 rfl (by decide)
     replace e_w := e_w.trans x
     replace e_w4 := e_w4.trans x
     have e_w34 := x
     replace m16 := m16.tr hs rfl
     clear hd hs x
     refine wpList_nil ?_
     refine exit_then ?_
     refine wp_reg_pre (l := [_, _, _, _, _, _, _]) (rest := [_, _]) 72 [[(6, none)], [(10, none)], [(58, some 1)], [(59, some 2)], [(10, none)], [(61, some 4)], [(60, some 3), (62, some 5)]] [?b36_0, ?b36_1, ?b36_2, ?b36_3, ?b36_4, ?b36_5, ?b36_6] (by kernel_rfl) (by kernel_rfl) hr ?t36 ?o36 ?_
     case o36 =>
      refine oc0 (fun A W hx hf => ?_) ?_
      exact ok_movE (a0 := a35) (r0 hf)
      refine oc0 (fun A W hx hf => ?_) ?_
      exact ok_movE (a0 := a35) (r0 hf)
      refine oc0 (fun A W hx hf => ?_) ?_
      exact ok_shr 8 (by decide) (p2 s10 e_w34 hx (q0 ?b36_1 A W 58 hf)) (ec A (.int .u64 8))
      refine oc0 (fun A W hx hf => ?_) ?_
      exact ok_conv8 Try.underlying23 Try.underlying5 (q0 ?b36_2 A W 59 hf)
      refine oc0 (fun A W hx hf => ?_) ?_
      exact ok_movE (a0 := a35) (r0 hf)
      refine oc0 (fun A W hx hf => ?_) ?_
      exact ok_conv8 Try.underlying23 Try.underlying5 (p2 s10 e_w34 hx (q0 ?b36_4 A W 61 hf))
      refine oc0 (fun A W hx hf => ?_) ?_
      exact ok_buildBs [(.tmp 60), (.tmp 62)] [_, _] Try.underlying22 size5 zero5 rfl rfl (by decide) (PartsOk.cons (q0 ?b36_3 A W 60 hf) (PartsOk.cons (q1 ?b36_5 A W 62 hf) (PartsOk.nil)))
      exact OpsOk.nil
     case t36 => exact inferInstance
     clear hr; intro a37 w37 x hr hd hs
     have u57 := mv s6 (fa ?b36_0 a37 w37 57 (hd 0 57 rfl))
     revert s0 s6 s8 s7 s5; refine kp5 hs rfl ?_; intro s0 s6 s8 s7 s5
     clear s10
     have s57 := u57; clear u57
     have s63 := fa ?b36_6 a37 w37 63 (hd 6 63 rfl)
     replace e_w := e_w.trans x
     replace e_w4 := e_w4.trans x
     replace e_w34 := e_w34.trans x
     have e_w35 := x
     replace m16 := m16.tr hs rfl
     clear hd hs x
     have l38 := OwnBA.lt (later e_w34 s57)
     have l38_5 := OwnBA.lt (later e_w35 s5)
     refine wl_append_bsA hr (by decide) Try.underlying22 info5 rfl (later e_w34 s57) s63 e_w4.size (by first | (simp; omega) | (split <;> simp <;> omega)) ?_; clear hr; intro g38 a38 w38 hg38 hc hr hd hs
     have hb := hc.below e_w4.size l38.1
     revert s0 s8 s7 s5; refine kp4 hs rfl ?_; intro s0 s8 s7 s5
     clear s6 s57 s63
     replace s5 := OwnBA.other (later e_w35 s5) hc (by omega)
     have s64 := hd
     replace e_w := e_w.below z_w_w4 hb
     replace e_w4 := e_w4.below (Nat.le_refl _) hb
     clear e_w34
     clear e_w35
     replace s8 := anyw (w2 := w38) s8
     replace s7 := anyw (w2 := w38) s7
     replace m16 := m16.tr hs rfl
     clear hd hs hb hc
     refine wl_op hr (ok_assign s64) inferInstance ?_; clear hr; intro a39 w39 x hr hd hs
     revert s0 s5 s8 s7; refine kp4 hs rfl ?_; intro s0 s5 s8 s7
     clear s64
     have s6 := hd 6 rfl (by decide)
     replace e_w := e_w.trans x
     replace e_w4 := e_w4.trans x
     have e_w38 := x
     replace m16 := m16.tr hs rfl
     clear hd hs x
     refine wpList_nil ?_
     refine blk_normal ?_
     refine exit_then ?_
     refine wp_reg 72 [[(8, none)], [(29, some 0)], [(30, some 1)]] [?b40_0, ?b40_1, ?b40_1] mixed (by kernel_rfl) (by kernel_rfl) hr ?t40 ?o40 ?_
     case o40 =>
      refine oc0 (fun A W hx hf => ?_) ?_
      exact ok_movE (a0 := a39) (r0 hf)
      refine oc0 (fun A W hx hf => ?_) ?_
      exact ok_addI (p2 s8 e_w38 hx (q0 ?b40_0 A W 29 hf)) (ec A (.int .i64 1)) (by omega)
      refine oc0 (fun A W hx hf => ?_) ?_
      exact ok_assign (q0 ?b40_1 A W 30 hf)
      exact OpsOk.nil
     case t40 => exact inferInstance
     clear hr; intro a41 w41 x hr hd hs
     revert s0 s5 s7 s6; refine kp4 hs rfl ?_; intro s0 s5 s7 s6
     clear s8
     have s8 := fa ?b40_1 a41 w41 8 (hd 2 8 rfl)
     replace e_w := e_w.trans x
     replace e_w4 := e_w4.trans x
     replace e_w38 := e_w38.trans x
     have e_w39 := x
     replace m16 := m16.tr hs rfl
     clear hd hs x
     refine exit_then ?_
     refine ⟨(fun (i β γ : Nat) => l.length - i) (i + 1) (0) (0), ?_, ?_⟩
     · (try dsimp only); omega
     refine ⟨i + 1, g34, g38, rfl, hr, m16, e_w, e_w4, (by omega), (by omega), ?_, ?_, ?_⟩
     · exact OwnBA.cast (later e_w38 s5) (enc_step hlt)
     · exact OwnBA.cast (later e_w39 s6) (encB_step hlt)
     · exact s8
   · skip
     have hlt : i = l.length := by simp at hlt; omega
     subst hlt
     refine wp_exit ?_
     refine then_exit ?_
     refine then_exit ?_
     refine blk_exit ?_
     refine exit_then ?_
     refine wp_seq ?_
     refine wp_reg 72 [[(5, none)], [(65, some 0)], [(66, some 1)], [(6, none)], [(68, some 3)], [(69, some 4)], [(67, some 2), (70, some 5)], [(71, some 6)]] [?b42_0, ?b42_1, ?b42_2, ?b42_3, ?b42_4, ?b42_5, ?b42_6, ?b42_6] mixed (by kernel_rfl) (by kernel_rfl) hr ?t42 ?o42 ?_
     case o42 =>
      refine oc0 (fun A W hx hf => ?_) ?_
      exact ok_movE (a0 := a18) (r0 hf)
      refine oc0 (fun A W hx hf => ?_) ?_
      exact ok_buildBss [(.tmp 65)] [_] Try.underlying44 size22 zero22 rfl rfl (by decide) (PartsOk.cons (OwnBA.bs (p2 s5 e_w16 hx (q0 ?b42_0 A W 65 hf))) (PartsOk.nil))
      refine oc0 (fun A W hx hf => ?_) ?_
      exact ok_call1 body10 (c_Sum (q0 ?b42_1 A W 66 hf))
      refine oc0 (fun A W hx hf => ?_) ?_
      exact ok_movE (a0 := a18) (r0 hf)
      refine oc0 (fun A W hx hf => ?_) ?_
      exact ok_buildBss [(.tmp 68)] [_] Try.underlying44 size22 zero22 rfl rfl (by decide) (PartsOk.cons (OwnBA.bs (p2 s6 e_w16 hx (q0 ?b42_3 A W 68 hf))) (PartsOk.nil))
      refine oc0 (fun A W hx hf => ?_) ?_
      exact ok_call1 body10 (c_Sum (q0 ?b42_4 A W 69 hf))
      refine oc0 (fun A W hx hf => ?_) ?_
      exact ok_eql (q0 ?b42_2 A W 67 hf) (q1 ?b42_5 A W 70 hf)
      refine oc0 (fun A W hx hf => ?_) ?_
      exact ok_assign (q0 ?b42_6 A W 71 hf)
      exact OpsOk.nil
     case t42 => exact inferInstance
     clear hr; intro a43 w43 x hr hd hs
     clear s0 s5 s6 s8 s7 s28
     have s4 := fa ?b42_6 a43 w43 4 (hd 7 4 rfl)
     replace e_w := e_w.trans x
     clear e_w4
     clear e_w16
     clear hd hs x
     refine exit_then ?_
     refine wp_ret ?_
     refine ret_tmp Try.results4 hr e_w ?_
     first | with_reducible exact s4 | exact Is.bool s4 (order_end hw)

end Go.Proofs.Ytaalllmkjobajaa
