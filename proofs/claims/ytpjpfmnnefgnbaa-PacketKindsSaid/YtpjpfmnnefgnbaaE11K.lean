/- Frames changed in one place, in plain Lean; answers that layer 11 fixes. -/
import Derived.Test.YtpjpfmnnefgnbaaE11
namespace Go.Proofs.Ytpjpfmnnefgnbaa
set_option linter.unusedVariables false
set_option linter.unusedSimpArgs false
open Go

/-! ## A header's checksum, mended -/
def zerod (l : List UInt8) : List UInt8 := (l.set 24 0).set 25 0
def mendS (l : List UInt8) : Int := ck (((zerod l).drop 14).take 20)
def mendL (l : List UInt8) : List UInt8 := ((zerod l).set 24 (b8 (mendS l / 256))).set 25 (b8 (mendS l))
theorem zerod_len (l : List UInt8) : (zerod l).length = l.length := by simp [zerod]
theorem mend_sum {l : List UInt8} (h : 34 ≤ l.length) : mendS l = 65535 - norm (sumTo ((zerod l).drop 14) 10) := by
  have hz := zerod_len l
  have e := sumTo_all (((zerod l).drop 14).take 20)
  rw [show ((((zerod l).drop 14).take 20).length + 1) / 2 = 10 from by rw [List.length_take, List.length_drop]; omega] at e
  unfold mendS ck
  rw [← e]
  congr 2
  have : ∀ k, k ≤ 10 → sumTo (((zerod l).drop 14).take 20) k = sumTo ((zerod l).drop 14) k := by
    intro k
    induction k with
    | zero => intro _; rfl
    | succ k ih =>
      intro hk
      have hw : wordAt (((zerod l).drop 14).take 20) (2 * k) = wordAt ((zerod l).drop 14) (2 * k) := by
        unfold wordAt
        rw [byteAt_take (by omega), byteAt_take (by omega)]
      show sumTo _ k + wordAt _ (2 * k) = sumTo _ k + wordAt _ (2 * k)
      rw [ih (by omega), hw]
  exact this 10 (by omega)
theorem mend_step {l : List UInt8} {k : Nat} : sumTo ((zerod l).drop 14) k + 256 * byteAt (zerod l) (14 + 2 * k) + byteAt (zerod l) (14 + 2 * k + 1) = sumTo ((zerod l).drop 14) (k + 1) := by
  show _ = sumTo ((zerod l).drop 14) k + wordAt ((zerod l).drop 14) (2 * k)
  rw [wordAt_drop]
  unfold wordAt
  omega
theorem mend_less {n s : Int} (h : n > 65535) (e : norm n = s) : norm (n - 65535) = s := by
  have := norm_shift (s := n - 65535) (by omega)
  rw [show n - 65535 + 65535 = n from by omega] at this
  rw [← this]; exact e
theorem mend_last {n s : Int} (h0 : 0 ≤ n) (h : ¬ n > 65535) (e : norm n = s) : 65535 - n = 65535 - s := by rw [← e, norm_small h0 (by omega)]
theorem set_behind {p q : List UInt8} {i : Nat} {c : UInt8} (hp : p.length = 14) : (p ++ q).set (14 + i) c = p ++ q.set i c := by
  rw [List.set_append_right _ _ (by omega), hp, Nat.add_sub_cancel_left]
theorem mend_hdr {H : FourL} (hH : FourOk H) {f g x y : UInt8} {p r : List UInt8} (hp : p.length = 14) : mendL (p ++ (hdr H f g x y ++ r)) = p ++ (sumd H f g ++ r) := by
  have z : zerod (p ++ (hdr H f g x y ++ r)) = p ++ (hdr H f g 0 0 ++ r) := by
    unfold zerod
    rw [set_behind (i := 10) hp, set_behind (i := 11) hp]; rfl
  have s : mendS (p ++ (hdr H f g x y ++ r)) = ck (hdr H f g 0 0) := by
    unfold mendS
    rw [z, List.drop_left' hp, List.take_left' (hdr_len hH f g 0 0)]
  unfold mendL
  rw [z, s, set_behind (i := 10) hp, set_behind (i := 11) hp]; rfl

/-! ## Frames of IPv4 without tags -/
section
variable {T : TupL} {f : Int} {load : List UInt8}
def P14 : List UInt8 := linkPut (typedL link0 false)
theorem P14_len : P14.length = 14 := by decide
def F11 (T : TupL) (f : Int) (load : List UInt8) : List UInt8 := pFill T.src T.dst T.proto (segL T f load)
theorem made4 (hT : TupOk T) (h6 : T.src.six = false) (h : whyL link0 T f load.length = 0) : makeL link0 T f load = P14 ++ (fourPut (four20 T (segN T load)) ++ F11 T f load) ∧ fourRight (four20 T (segN T load)) = true ∧ (F11 T f load).length = headL T + load.length := by
  obtain ⟨hs, hm⟩ := why_seg h
  have hsl := segL_len T f load
  have hsk := seg_ok (load := load) hm (by split at hs <;> omega)
  have hfl := fill_len (Sa := T.src) (Da := T.dst) hsk
  refine ⟨?_, four20_right hm h6 ?_, ?_⟩
  · unfold makeL ipL F11 P14
    rw [h6, hsl, List.append_assoc]; rfl
  · rw [h6] at hs
    simp only [Bool.false_eq_true, if_false] at hs
    unfold segN; omega
  · unfold F11; rw [hfl, hsl]
theorem made4_len (hT : TupOk T) (h6 : T.src.six = false) (h : whyL link0 T f load.length = 0) : (makeL link0 T f load).length = 34 + headL T + load.length := by
  rw [makeL_len link0_ok hT h, h6]
  show 14 + 4 * 0 + 20 + _ + _ = _
  omega
theorem read14 (q : List UInt8) : linkRead (P14 ++ q) = ({ typedL link0 false with at' := 14 }, 0) := by
  unfold P14
  rw [link_back (typedL_ok link0_ok) (by decide)]; rfl
theorem pkN14 (q : List UInt8) : pkA (P14 ++ q) = 14 ∧ pkN (P14 ++ q) = netT 2048 q := by
  have hA : pkA (P14 ++ q) = 14 := by unfold pkA; rw [read14]; rfl
  refine ⟨hA, ?_⟩
  unfold pkN
  rw [hA, read14, List.drop_left' P14_len]; rfl
theorem pkt14 (q : List UInt8) : pktRead (P14 ++ q) = if (netT 2048 q).2 ≠ 0 then give 3 else if (netT 2048 q).1.frag = true then give 4 else if carriedB (netT 2048 q).1.proto = false then give 5
    else if (portRead (netT 2048 q).1.proto (pkP (P14 ++ q))).2 ≠ 0 then give 6 else fineR (P14 ++ q) := by
  obtain ⟨_, hN⟩ := pkN14 q
  unfold pktRead
  rw [if_neg (by rw [read14]; decide), if_neg (by rw [read14]; decide), hN]
  unfold fineR fineT
  rw [hN]
theorem kind_alien {l : List UInt8} (hl : 14 ≤ l.length) {z : Int} (hz : 0 ≤ z ∧ z ≤ 65535) (h1 : z ≠ 2048) (h2 : z ≠ 34525) (h3 : z ≠ 33024) (h4 : z ≠ 34984) : pktRead ((l.set 12 (b8 (z / 2 ^ 8))).set 13 (b8 z)) = give 2 := by
  have b12 : byteAt ((l.set 12 (b8 (z / 2 ^ 8))).set 13 (b8 z)) 12 = z / 256 := by
    rw [byteAt_set_ne (by decide), byteAt_set_self (by omega), b8_toNat]
    show z / 256 % 256 = _; omega
  have b13 : byteAt ((l.set 12 (b8 (z / 2 ^ 8))).set 13 (b8 z)) 13 = z % 256 := by
    rw [byteAt_set_self (by simp; omega), b8_toNat]
  have w : wordAt ((l.set 12 (b8 (z / 2 ^ 8))).set 13 (b8 z)) 12 = z := by unfold wordAt; rw [b12, b13]; omega
  have hr : linkRead ((l.set 12 (b8 (z / 2 ^ 8))).set 13 (b8 z)) = (⟨((l.set 12 (b8 (z / 2 ^ 8))).set 13 (b8 z)).take 6, (((l.set 12 (b8 (z / 2 ^ 8))).set 13 (b8 z)).drop 6).take 6, [], z, ((12 : Nat) : Int) + 2⟩, 0) := by
    unfold linkRead
    rw [linkGo_done (by simp; omega) (by rw [w]; unfold tagB; simp [h3, h4]), w]
  unfold pktRead
  rw [hr, if_neg (by simp), if_pos (by simp [h1, h2])]
theorem kind_port (hT : TupOk T) (h6 : T.src.six = false) (h : whyL link0 T f load.length = 0) {p : UInt8} (h1 : p ≠ 6) (h2 : p ≠ 17) : pktRead (mendL ((makeL link0 T f load).set 23 p)) = give 5 := by
  obtain ⟨e, hr, hl⟩ := made4 hT h6 h
  have hk : keepB (four20 T (segN T load)) = 64 := rfl
  rw [e, fourPut_hdr (show FourOk (four20 T (segN T load)) from hT), hk]
  have hs : (P14 ++ (sumd (four20 T (segN T load)) 64 0 ++ F11 T f load)).set 23 p = P14 ++ (hdr { four20 T (segN T load) with proto := (p.toNat : Int) } 64 0 (b8 (ck (hdr (four20 T (segN T load)) 64 0 0 0) / 256)) (b8 (ck (hdr (four20 T (segN T load)) 64 0 0 0))) ++ F11 T f load) := by
    rw [set_behind (i := 9) P14_len]
    unfold sumd hdr
    rw [show b8 (({ four20 T (segN T load) with proto := (p.toNat : Int) } : FourL).proto) = p from b8_small rfl]
    rfl
  rw [hs, mend_hdr (show FourOk { four20 T (segN T load) with proto := (p.toNat : Int) } from hT) P14_len, pkt14]
  have hp := p.toNat_lt
  have hr2 : fourRight { four20 T (segN T load) with proto := (p.toNat : Int) } = true := by
    obtain ⟨k1, k2, k3, k4, k5, k6, k7, k8, k9⟩ := fourRight_bd hr
    unfold fourRight inB
    simp only [Bool.and_eq_true, decide_eq_true_eq, Bool.not_eq_true']
    exact ⟨⟨⟨⟨⟨⟨⟨⟨⟨k1, k2.1⟩, k2.2⟩, k3⟩, k4⟩, by omega⟩, k6⟩, k7⟩, k8⟩, k9⟩
  have hn : netT 2048 (sumd { four20 T (segN T load) with proto := (p.toNat : Int) } 64 0 ++ F11 T f load) = (⟨20, 20 + segN T load, (p.toNat : Int), false, T.src, T.dst⟩, 0) := by
    unfold netT
    rw [if_pos rfl, read_sumd (show FourOk { four20 T (segN T load) with proto := (p.toNat : Int) } from hT) hr2 (by show 20 + segN T load ≤ _; rw [hl]; unfold segN; omega)]
    rfl
  have hc : carriedB (p.toNat : Int) = false := by
    have e1 : (p.toNat : Int) ≠ 6 := fun hx => h1 (UInt8.toNat_inj.mp (by show p.toNat = 6; omega))
    have e2 : (p.toNat : Int) ≠ 17 := fun hx => h2 (UInt8.toNat_inj.mp (by show p.toNat = 17; omega))
    unfold carriedB; simp [e1, e2]
  rw [hn, if_neg (by simp), if_neg (by simp), if_pos hc]
theorem byte20 (hT : TupOk T) (h6 : T.src.six = false) (h : whyL link0 T f load.length = 0) : (makeL link0 T f load)[20]? = some 64 ∧ (makeL link0 T f load)[22]? = some 64 := by
  obtain ⟨e, hr, hl⟩ := made4 hT h6 h
  rw [e, fourPut_hdr (show FourOk (four20 T (segN T load)) from hT)]
  refine ⟨?_, ?_⟩
  · rw [List.getElem?_append_right (by rw [P14_len]; omega), P14_len]; rfl
  · rw [List.getElem?_append_right (by rw [P14_len]; omega), P14_len]; rfl
theorem kind_part (hT : TupOk T) (h6 : T.src.six = false) (h : whyL link0 T f load.length = 0) : pktRead (mendL ((makeL link0 T f load).set 20 96)) = give 4 := by
  obtain ⟨e, hr, hl⟩ := made4 hT h6 h
  have hk : keepB (four20 T (segN T load)) = 64 := rfl
  rw [e, fourPut_hdr (show FourOk (four20 T (segN T load)) from hT), hk]
  have hs : (P14 ++ (sumd (four20 T (segN T load)) 64 0 ++ F11 T f load)).set 20 96 = P14 ++ (hdr (four20 T (segN T load)) 96 0 (b8 (ck (hdr (four20 T (segN T load)) 64 0 0 0) / 256)) (b8 (ck (hdr (four20 T (segN T load)) 64 0 0 0))) ++ F11 T f load) := by
    rw [set_behind (i := 6) P14_len]; rfl
  rw [hs, mend_hdr (show FourOk (four20 T (segN T load)) from hT) P14_len, pkt14]
  have hn : netT 2048 (sumd (four20 T (segN T load)) 96 0 ++ F11 T f load) = (⟨20, 20 + segN T load, T.proto, true, T.src, T.dst⟩, 0) := by
    unfold netT
    rw [if_pos rfl, read_sumd (show FourOk (four20 T (segN T load)) from hT) hr (by show 20 + segN T load ≤ _; rw [hl]; unfold segN; omega)]
    rfl
  rw [hn, if_neg (by simp), if_pos rfl]
theorem kind_net (hT : TupOk T) (h6 : T.src.six = false) (h : whyL link0 T f load.length = 0) {c : UInt8} (hc : c ≠ 64) : pktRead ((makeL link0 T f load).set 22 c) = give 3 := by
  obtain ⟨e, hr, hl⟩ := made4 hT h6 h
  have hH : FourOk (four20 T (segN T load)) := hT
  rw [e, set_behind (i := 8) P14_len, pkt14]
  have hn : (fourRead ((fourPut (four20 T (segN T load)) ++ F11 T f load).set 8 c)).2 ≠ 0 := by
    rcases four_spoilt (r := F11 T f load) (k := 8) (c := c) hH (by decide) (by
      have e8 : (fourPut (four20 T (segN T load)) ++ F11 T f load)[8]? = some 64 := by rw [fourPut_hdr hH]; rfl
      have := List.getElem?_eq_some_iff.1 e8
      obtain ⟨_, e9⟩ := this
      rw [e9]; exact hc) with h9 | h9
    · exact h9
    · exact absurd h9.1 (by decide)
  have hn2 : (netT 2048 ((fourPut (four20 T (segN T load)) ++ F11 T f load).set 8 c)).2 ≠ 0 := by unfold netT; rw [if_pos rfl]; exact hn
  rw [if_pos hn2]
end
/-! ## What awake asks -/
def adrB : Adr := ⟨false, [5, 6, 7, 8, 0, 0, 0, 0, 0, 0, 0, 0, 0, 0, 0, 0]⟩
def some11 : TupL := ⟨adrA, adrB, 6, 1000, 80⟩
theorem some11_ok : TupOk some11 := ⟨rfl, rfl⟩
def hi11 : List UInt8 := [104, 105]
def mk11 : List UInt8 := makeL link0 some11 2 hi11
theorem some11_why : whyL link0 some11 2 hi11.length = 0 := by decide +kernel
theorem tup0_why : whyL link0 tup0 0 ([] : List UInt8).length = 1 := by decide +kernel
theorem mk11_len : mk11.length = 56 := makeL_len link0_ok some11_ok some11_why
theorem mk11_read : pktRead mk11 = ⟨0, some11, 2, 14, 34, 56⟩ := by
  have := (make_all (L := link0) (f := 2) (load := hi11) link0_ok some11_ok some11_why []).2.2.2.2
  rw [List.append_nil] at this
  exact this
theorem z13_read : pktRead (List.replicate 13 0) = give 1 := by unfold pktRead; rw [if_pos (by decide +kernel)]
theorem z14_read : pktRead (List.replicate 14 0) = give 2 := by unfold pktRead; rw [if_neg (by decide +kernel), if_pos (by decide +kernel)]
section
variable {T : TupL} {load : List UInt8}
end
end Go.Proofs.Ytpjpfmnnefgnbaa
