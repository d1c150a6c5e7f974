/- PROVED: for every input, the Go function 'wayleave/wayleavelaw12.NatMade' returns true and each argument reads afterwards as before; no condition. -/
import Derived.Test.YtlmdboaghojgiaaRows
import Derived.WalkKit
import Derived.ProofKit
import Derived.OpenShut
import Derived.ShutString
import Derived.ChangeOld
import Derived.Below
import Derived.Carry
import Derived.Test.YtlmdboaghojgiaaQ11
import Derived.Test.YtlmdboaghojgiaaNatMadeW
namespace Go.Proofs.Ytlmdboaghojgiaa.natMade
open Go.ChangeShapes Go.WideShapes Go.ChangeAt Go.RowKit
set_option linter.unusedVariables false
set_option linter.unusedSimpArgs false

theorem own : ownKnob Try.prog.godebug = none := by kernel_rfl
theorem Q89 : laidOutB Try.prog = true := by kernel_rfl

set_option maxRecDepth 100000 in
theorem Qp4 (os : Os) (started : os.Started) (H : Type) (enc : TypeId × Value → H) :
    ReturnsInHanded {} Try.checked os 6 .any (Rows.natMadeSpec.pre6 enc Try.prog Try.f6 Rows.natMadeRow.domain false) (Rows.natMadeSpec.post enc Try.prog Try.f6 false true false false) := by
  refine returnsInHanded_of_change (C := Try.checked) own started (by kernel_rfl) Try.func6
    (ChangeSpec.witness6 (enc := enc) (C := Try.checked) false ⟨#[], #[.agg (lnkS Q4q (.slice none 0 0)).flatten.toArray, .agg (tupS tup0).flatten.toArray, .int .i64 0, .slice none 0 0, .agg (Q0l adr0).toArray, .int .i64 0], []⟩ 8 (by kernel_rfl) (by kernel_rfl) (by kernel_rfl) (by kernel_rfl)) ?_
  intro W base args ds gs before hval0 hW hcnd _
  have hval : ∀ (j : Nat) t v, Try.f6.params[j]? = some t → args[j]? = some v → Value.okWide Try.prog W .any base t v := hval0
  have hW' := hW
  obtain ⟨p, q, hA0, hV, rfl, hfz, hnd⟩ := hW
  have hA : DataW.TrodAll enc Try.prog W 0 (fun _ => true) true Try.f6.params.toList args.toList ds p := hA0
  rw [Try.params6] at hA hval
  obtain ⟨v0, vs0, d0, ds0, p0, q0, hargs, rfl, rfl, h0, r0⟩ := trodAll_cons hA
  obtain ⟨v1, vs1, d1, ds1, p1, q1, rfl, rfl, rfl, h1, r1⟩ := trodAll_cons r0
  obtain ⟨v2, vs2, d2, ds2, p2, q2, rfl, rfl, rfl, h2, r2⟩ := trodAll_cons r1
  obtain ⟨v3, vs3, d3, ds3, p3, q3, rfl, rfl, rfl, h3, r3⟩ := trodAll_cons r2
  obtain ⟨v4, vs4, d4, ds4, p4, q4, rfl, rfl, rfl, h4, r4⟩ := trodAll_cons r3
  obtain ⟨v5, vs5, d5, ds5, p5, q5, rfl, rfl, rfl, h5, r5⟩ := trodAll_cons r4
  obtain ⟨rfl, rfl, rfl⟩ := trodAll_nil r5
  obtain rfl : args = #[v0, v1, v2, v3, v4, v5] := by cases args; simp_all
  obtain ⟨rfl, rfl⟩ := trodVars_none hV
  have k0 := h0
  have lt0 : ∀ x ∈ p0, x.block < W.heap.size := by obtain ⟨m, hm⟩ := k0; exact DataW.trod_lt m _ _ _ hm
  have k1 := h1
  have lt1 : ∀ x ∈ p1, x.block < W.heap.size := by obtain ⟨m, hm⟩ := k1; exact DataW.trod_lt m _ _ _ hm
  have k2 := h2
  have lt2 : ∀ x ∈ p2, x.block < W.heap.size := by obtain ⟨m, hm⟩ := k2; exact DataW.trod_lt m _ _ _ hm
  have k3 := h3
  have lt3 : ∀ x ∈ p3, x.block < W.heap.size := by obtain ⟨m, hm⟩ := k3; exact DataW.trod_lt m _ _ _ hm
  have k4 := h4
  have lt4 : ∀ x ∈ p4, x.block < W.heap.size := by obtain ⟨m, hm⟩ := k4; exact DataW.trod_lt m _ _ _ hm
  have k5 := h5
  have lt5 : ∀ x ∈ p5, x.block < W.heap.size := by obtain ⟨m, hm⟩ := k5; exact DataW.trod_lt m _ _ _ hm
  obtain ⟨cs0, e0, -⟩ := okWide_struct Try.underlying46 (hval 0 46 v0 rfl rfl)
  subst e0
  obtain ⟨X0, sv0, c0, w0, rw0⟩ := (Rd.of h0).link
  obtain rfl : cs0 = _ := congrArg List.toArray c0
  obtain ⟨cs1, e1, -⟩ := okWide_struct Try.underlying35 (hval 1 35 v1 rfl rfl)
  subst e1
  obtain ⟨X1, c1, w1⟩ := (Rd.of h1).tup
  obtain rfl : cs1 = _ := congrArg List.toArray c1
  obtain ⟨n2, e2, -, -, w2⟩ := open_int Try.underlying3 (hval 2 3 v2 rfl rfl) h2
  subst e2
  obtain ⟨a3, len3, cap3, e3⟩ := okWide_slice Try.underlying22 (hval 3 22 v3 rfl rfl)
  subst e3
  obtain ⟨l3, f3⟩ : ∃ l, Bs l (.slice a3 len3 cap3) W := by
    obtain ⟨x, l, hc, hb⟩ := (Rd.of h3).bytes Try.underlying22 Try.underlying5 (by kernel_rfl)
    simp [Value.cells] at hc
    subst hc
    exact ⟨l, hb⟩
  obtain ⟨cs4, e4, -⟩ := okWide_struct Try.underlying25 (hval 4 25 v4 rfl rfl)
  subst e4
  obtain ⟨A4, c4, w4⟩ := (Rd.of h4).addr Try.underlying25 Try.underlying4 Try.underlying23 Try.underlying5 ⟨by kernel_rfl, by kernel_rfl, by kernel_rfl, by kernel_rfl⟩
  obtain rfl : cs4 = (Q0l A4).toArray := by rw [← c4]; rfl
  obtain ⟨n5, e5, -, -, w5⟩ := open_int Try.underlying3 (hval 5 3 v5 rfl rfl) h5
  subst e5
  clear hA0 hval0
  refine (Qe5 (LinkV.of rfl rw0) rfl rfl f3 (show Is (AdrV A4) _ _ from rfl) rfl w0 w1 w4).mono fun e W' hr => ?_
  obtain ⟨he, bel⟩ := Qkw hr
  subst he
  exact ⟨_, rfl, _, _, _, [], _, [], hW', trodAll_mk1 (shut_bool Try.underlying4 _), (trodAll_cons_mk (Below.trod Q89 (by kernel_rfl) (of_decide_eq_true (by kernel_rfl)) k0 bel lt0) (trodAll_cons_mk (Below.trod Q89 (by kernel_rfl) (of_decide_eq_true (by kernel_rfl)) k1 bel lt1) (trodAll_cons_mk (Below.trod Q89 (by kernel_rfl) (of_decide_eq_true (by kernel_rfl)) k2 bel lt2) (trodAll_cons_mk (Below.trod Q89 (by kernel_rfl) (of_decide_eq_true (by kernel_rfl)) k3 bel lt3) (trodAll_cons_mk (Below.trod Q89 (by kernel_rfl) (of_decide_eq_true (by kernel_rfl)) k4 bel lt4) (trodAll_cons_mk (Below.trod Q89 (by kernel_rfl) (of_decide_eq_true (by kernel_rfl)) k5 bel lt5) trodAll_mk0)))))), rfl, bel.frame _, fun h => by cases h⟩

theorem over : Rows.natMadeRow.holds Try.pinned (OpenSpec.ofChange Rows.natMadeSpec) :=
  OpenClaim.holds_of_wide 6 Try.f6 rfl rfl rfl rfl rfl rfl rfl ⟨rfl, rfl, rfl, rfl, rfl⟩ rfl rfl rfl rfl rfl (by kernel_rfl) Try.func6 (by kernel_rfl)
    (of_decide_eq_true (by kernel_rfl)) (by unfold Func.isWrapper; first | (rw [if_pos (by decide +kernel)]; kernel_rfl) | (rw [if_neg (by decide +kernel)]; exact ⟨rfl, rfl⟩))
    (fun os started H enc _ => Qp4 os started H enc)

theorem proved : Rows.NatMadeSaid := over
#print axioms proved
end Go.Proofs.Ytlmdboaghojgiaa.natMade
