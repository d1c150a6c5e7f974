/- PROVED: for every input, the Go function 'wayleave/wayleavelaw12.NatKeeps' returns true and each argument reads afterwards as before; no condition. -/
import Derived.Test.YtlmdboaghojgiaaRows
import Derived.WalkKit
import Derived.ProofKit
import Derived.OpenShut
import Derived.ShutString
import Derived.ChangeOld
import Derived.Below
import Derived.Carry
import Derived.Test.YtlmdboaghojgiaaF
import Derived.Test.YtlmdboaghojgiaaNatKeepsW
namespace Go.Proofs.Ytlmdboaghojgiaa.natKeeps
open Go.ChangeShapes Go.WideShapes Go.ChangeAt Go.RowKit
set_option linter.unusedVariables false
set_option linter.unusedSimpArgs false

theorem own : ownKnob Try.prog.godebug = none := by kernel_rfl
theorem Qd6 : laidOutB Try.prog = true := by kernel_rfl

set_option maxRecDepth 100000 in
theorem Qn6 (os : Os) (started : os.Started) (H : Type) (enc : TypeId × Value → H) :
    ReturnsInHanded {} Try.checked os 8 .any (Rows.natKeepsSpec.pre6 enc Try.prog Try.f8 Rows.natKeepsRow.domain false) (Rows.natKeepsSpec.post enc Try.prog Try.f8 false true false false) := by
  refine returnsInHanded_of_change (C := Try.checked) own started (by kernel_rfl) Try.func8
    (ChangeSpec.witness6 (enc := enc) (C := Try.checked) false ⟨#[], #[.slice none 0 0, .agg (Q0l adr0).toArray, .int .i64 0], []⟩ 8 (by kernel_rfl) (by kernel_rfl) (by kernel_rfl) (by kernel_rfl)) ?_
  intro W base args ds gs before hval0 hW hcnd _
  have hval : ∀ (j : Nat) t v, Try.f8.params[j]? = some t → args[j]? = some v → Value.okWide Try.prog W .any base t v := hval0
  have hW' := hW
  obtain ⟨p, q, hA0, hV, rfl, hfz, hnd⟩ := hW
  have hA : DataW.TrodAll enc Try.prog W 0 (fun _ => true) true Try.f8.params.toList args.toList ds p := hA0
  rw [Try.params8] at hA hval
  obtain ⟨v0, vs0, d0, ds0, p0, q0, hargs, rfl, rfl, h0, r0⟩ := trodAll_cons hA
  obtain ⟨v1, vs1, d1, ds1, p1, q1, rfl, rfl, rfl, h1, r1⟩ := trodAll_cons r0
  obtain ⟨v2, vs2, d2, ds2, p2, q2, rfl, rfl, rfl, h2, r2⟩ := trodAll_cons r1
  obtain ⟨rfl, rfl, rfl⟩ := trodAll_nil r2
  obtain rfl : args = #[v0, v1, v2] := by cases args; simp_all
  obtain ⟨rfl, rfl⟩ := trodVars_none hV
  have k0 := h0
  have lt0 : ∀ x ∈ p0, x.block < W.heap.size := by obtain ⟨m, hm⟩ := k0; exact DataW.trod_lt m _ _ _ hm
  have k1 := h1
  have lt1 : ∀ x ∈ p1, x.block < W.heap.size := by obtain ⟨m, hm⟩ := k1; exact DataW.trod_lt m _ _ _ hm
  have k2 := h2
  have lt2 : ∀ x ∈ p2, x.block < W.heap.size := by obtain ⟨m, hm⟩ := k2; exact DataW.trod_lt m _ _ _ hm
  obtain ⟨a0, len0, cap0, e0⟩ := okWide_slice Try.underlying22 (hval 0 22 v0 rfl rfl)
  subst e0
  obtain ⟨l0, f0⟩ : ∃ l, Bs l (.slice a0 len0 cap0) W := by
    obtain ⟨x, l, hc, hb⟩ := (Rd.of h0).bytes Try.underlying22 Try.underlying5 (by kernel_rfl)
    simp [Value.cells] at hc
    subst hc
    exact ⟨l, hb⟩
  obtain ⟨cs1, e1, -⟩ := okWide_struct Try.underlying25 (hval 1 25 v1 rfl rfl)
  subst e1
  obtain ⟨A1, c1, w1⟩ := (Rd.of h1).addr Try.underlying25 Try.underlying4 Try.underlying23 Try.underlying5 ⟨by kernel_rfl, by kernel_rfl, by kernel_rfl, by kernel_rfl⟩
  obtain rfl : cs1 = (Q0l A1).toArray := by rw [← c1]; rfl
  obtain ⟨n2, e2, -, -, w2⟩ := open_int Try.underlying3 (hval 2 3 v2 rfl rfl) h2
  subst e2
  clear hA0 hval0
  refine (Qbg f0 (show Is (AdrV A1) _ _ from rfl) rfl w1).mono fun e W' hr => ?_
  obtain ⟨he, bel⟩ := Qjo hr
  subst he
  exact ⟨_, rfl, _, _, _, [], _, [], hW', trodAll_mk1 (shut_bool Try.underlying4 _), (trodAll_cons_mk (Below.trod Qd6 (by kernel_rfl) (of_decide_eq_true (by kernel_rfl)) k0 bel lt0) (trodAll_cons_mk (Below.trod Qd6 (by kernel_rfl) (of_decide_eq_true (by kernel_rfl)) k1 bel lt1) (trodAll_cons_mk (Below.trod Qd6 (by kernel_rfl) (of_decide_eq_true (by kernel_rfl)) k2 bel lt2) trodAll_mk0))), rfl, bel.frame _, fun h => by cases h⟩

theorem over : Rows.natKeepsRow.holds Try.pinned (OpenSpec.ofChange Rows.natKeepsSpec) :=
  OpenClaim.holds_of_wide 8 Try.f8 rfl rfl rfl rfl rfl rfl rfl ⟨rfl, rfl, rfl, rfl, rfl⟩ rfl rfl rfl rfl rfl (by kernel_rfl) Try.func8 (by kernel_rfl)
    (of_decide_eq_true (by kernel_rfl)) (by unfold Func.isWrapper; first | (rw [if_pos (by decide +kernel)]; kernel_rfl) | (rw [if_neg (by decide +kernel)]; exact ⟨rfl, rfl⟩))
    (fun os started H enc _ => Qn6 os started H enc)

theorem proved : Rows.NatKeepsSaid := over
#print axioms proved
end Go.Proofs.Ytlmdboaghojgiaa.natKeeps
