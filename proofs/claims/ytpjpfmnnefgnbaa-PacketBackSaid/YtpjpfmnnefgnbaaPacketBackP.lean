/- PROVED: for every input, the Go function 'wayleave/wayleavelaw11.PacketBack' returns true and each argument reads afterwards as before; no condition. -/
import Derived.Test.YtpjpfmnnefgnbaaRows
import Derived.WalkKit
import Derived.ProofKit
import Derived.OpenShut
import Derived.ShutString
import Derived.ChangeOld
import Derived.Below
import Derived.Carry
import Derived.Test.YtpjpfmnnefgnbaaQ11
import Derived.Test.YtpjpfmnnefgnbaaPacketBackW
namespace Go.Proofs.Ytpjpfmnnefgnbaa.packetBack
open Go.ChangeShapes Go.WideShapes Go.ChangeAt Go.RowKit
set_option linter.unusedVariables false
set_option linter.unusedSimpArgs false

theorem own : ownKnob Try.prog.godebug = none := by kernel_rfl
theorem laidOut : laidOutB Try.prog = true := by kernel_rfl

set_option maxRecDepth 100000 in
theorem lifted (os : Os) (started : os.Started) (H : Type) (enc : TypeId × Value → H) :
    ReturnsInHanded {} Try.checked os 5 .any (Rows.packetBackSpec.pre6 enc Try.prog Try.f5 Rows.packetBackRow.domain false) (Rows.packetBackSpec.post enc Try.prog Try.f5 false true false false) := by
  refine returnsInHanded_of_change (C := Try.checked) own started (by kernel_rfl) Try.func5
    (ChangeSpec.witness6 (enc := enc) (C := Try.checked) false ⟨#[], #[.agg (lnkS link0 (.slice none 0 0)).flatten.toArray, .agg (tupS tup0).flatten.toArray, .int .i64 0, .slice none 0 0, .slice none 0 0], []⟩ 8 (by kernel_rfl) (by kernel_rfl) (by kernel_rfl) (by kernel_rfl)) ?_
  intro W base args ds gs before hval0 hW hcnd _
  have hval : ∀ (j : Nat) t v, Try.f5.params[j]? = some t → args[j]? = some v → Value.okWide Try.prog W .any base t v := hval0
  have hW' := hW
  obtain ⟨p, q, hA0, hV, rfl, hfz, hnd⟩ := hW
  have hA : DataW.TrodAll enc Try.prog W 0 (fun _ => true) true Try.f5.params.toList args.toList ds p := hA0
  rw [Try.params5] at hA hval
  obtain ⟨v0, vs0, d0, ds0, p0, q0, hargs, rfl, rfl, h0, r0⟩ := trodAll_cons hA
  obtain ⟨v1, vs1, d1, ds1, p1, q1, rfl, rfl, rfl, h1, r1⟩ := trodAll_cons r0
  obtain ⟨v2, vs2, d2, ds2, p2, q2, rfl, rfl, rfl, h2, r2⟩ := trodAll_cons r1
  obtain ⟨v3, vs3, d3, ds3, p3, q3, rfl, rfl, rfl, h3, r3⟩ := trodAll_cons r2
  obtain ⟨v4, vs4, d4, ds4, p4, q4, rfl, rfl, rfl, h4, r4⟩ := trodAll_cons r3
  obtain ⟨rfl, rfl, rfl⟩ := trodAll_nil r4
  obtain rfl : args = #[v0, v1, v2, v3, v4] := by cases args; simp_all
  obtain ⟨rfl, rfl⟩ := trodVars_none hV
  have k0 := h0
  have lt0 : ∀ x ∈ p0, x.block < W.heap.size := by obtain ⟨m, hm⟩ := k0; exact DataW.trod_lt m _ _ _ hm
  have k1 := h1
  have lt1 : ∀ x ∈ p1, x.block < W.heap.size := by obtain ⟨m, hm⟩ := k1; exact DataW.trod_lt m _ _ _ hm
  have k2 := h2
  have lt2 : ∀ x ∈ p2, x.block < W.heap.size := by obtain ⟨m, hm⟩ := k2; exact DataW.trod_lt m _ _ _ hm
  have k3 := h3
  have lt3 : ∀ x ∈ p3, x.block < W.heap.size := by obtain ⟨m, hm⟩ := k3; exact DataW.trod_lt m _ _ _ hm
  have k4 := h4
  have lt4 : ∀ x ∈ p4, x.block < W.heap.size := by obtain ⟨m, hm⟩ := k4; exact DataW.trod_lt m _ _ _ hm
  obtain ⟨cs0, e0, -⟩ := okWide_struct Try.underlying36 (hval 0 36 v0 rfl rfl)
  subst e0
  obtain ⟨X0, sv0, c0, w0, rw0⟩ := (Rd.of h0).link
  obtain rfl : cs0 = _ := congrArg List.toArray c0
  obtain ⟨cs1, e1, -⟩ := okWide_struct Try.underlying28 (hval 1 28 v1 rfl rfl)
  subst e1
  obtain ⟨X1, c1, w1⟩ := (Rd.of h1).tup
  obtain rfl : cs1 = _ := congrArg List.toArray c1
  obtain ⟨n2, e2, -, -, w2⟩ := open_int Try.underlying3 (hval 2 3 v2 rfl rfl) h2
  subst e2
  obtain ⟨a3, len3, cap3, e3⟩ := okWide_slice Try.underlying22 (hval 3 22 v3 rfl rfl)
  subst e3
  obtain ⟨l3, f3⟩ : ∃ l, Bs l (.slice a3 len3 cap3) W := by
    obtain ⟨x, l, hc, hb⟩ := (Rd.of h3).bytes Try.underlying22 Try.underlying5 (by kernel_rfl)
    simp [Value.cells] at hc
    subst hc
    exact ⟨l, hb⟩
  obtain ⟨a4, len4, cap4, e4⟩ := okWide_slice Try.underlying22 (hval 4 22 v4 rfl rfl)
  subst e4
  obtain ⟨l4, f4⟩ : ∃ l, Bs l (.slice a4 len4 cap4) W := by
    obtain ⟨x, l, hc, hb⟩ := (Rd.of h4).bytes Try.underlying22 Try.underlying5 (by kernel_rfl)
    simp [Value.cells] at hc
    subst hc
    exact ⟨l, hb⟩
  clear hA0 hval0
  refine (law_PacketBack (LinkV.of rfl rw0) rfl rfl f3 f4 w0 w1).mono fun e W' hr => ?_
  obtain ⟨he, bel⟩ := law_done hr
  subst he
  exact ⟨_, rfl, _, _, _, [], _, [], hW', trodAll_mk1 (shut_bool Try.underlying4 _), (trodAll_cons_mk (Below.trod laidOut (by kernel_rfl) (of_decide_eq_true (by kernel_rfl)) k0 bel lt0) (trodAll_cons_mk (Below.trod laidOut (by kernel_rfl) (of_decide_eq_true (by kernel_rfl)) k1 bel lt1) (trodAll_cons_mk (Below.trod laidOut (by kernel_rfl) (of_decide_eq_true (by kernel_rfl)) k2 bel lt2) (trodAll_cons_mk (Below.trod laidOut (by kernel_rfl) (of_decide_eq_true (by kernel_rfl)) k3 bel lt3) (trodAll_cons_mk (Below.trod laidOut (by kernel_rfl) (of_decide_eq_true (by kernel_rfl)) k4 bel lt4) trodAll_mk0))))), rfl, bel.frame _, fun h => by cases h⟩

theorem over : Rows.packetBackRow.holds Try.pinned (OpenSpec.ofChange Rows.packetBackSpec) :=
  OpenClaim.holds_of_wide 5 Try.f5 rfl rfl rfl rfl rfl rfl rfl ⟨rfl, rfl, rfl, rfl, rfl⟩ rfl rfl rfl rfl rfl (by kernel_rfl) Try.func5 (by kernel_rfl)
    (of_decide_eq_true (by kernel_rfl)) (by unfold Func.isWrapper; first | (rw [if_pos (by decide +kernel)]; kernel_rfl) | (rw [if_neg (by decide +kernel)]; exact ⟨rfl, rfl⟩))
    (fun os started H enc _ => lifted os started H enc)

/-- the statement -/
theorem proved : Rows.PacketBackSaid := over
#print axioms proved
end Go.Proofs.Ytpjpfmnnefgnbaa.packetBack
