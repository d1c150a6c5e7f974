import Derived.Test.YtdbjpfjnambenaaX
import Derived.OpenShut
/-!
What the frame of a statement tells of an argument, in the walk's words (my own text).
-/
namespace Go.Proofs.Ytdbjpfjnambenaa
open Go Go.RowKit

/-- The byte of a number that fits. -/
theorem byte_of_wf {n : Int} (h : (Lit.int .u8 n).wf = true) : Value.int .u8 n = byteV (UInt8.ofNat n.toNat) := by
  simp only [Lit.wf, IntKind.min, IntKind.max, Bool.and_eq_true, decide_eq_true_eq] at h
  have h0 : (0 : Int) ≤ n := by simpa [IntKind.signed] using h.1
  have h1 : n ≤ 255 := by
    have := h.2
    simpa [IntKind.signed, IntKind.bits] using this
  unfold byteV
  congr 1
  simp
  omega

/-- A row of bytes that came in, as a list of bytes. -/
theorem bs_of_row {w : World} {a : Option Addr} {len cap : Nat} {zs : List Int}
    (h : (a = none ∧ len = 0 ∧ cap = 0 ∧ zs = []) ∨
      ∃ x, a = some x ∧ len ≤ cap ∧ cap ≤ maxLen ∧ zs.length = cap ∧ (∀ i, i < zs.length → w.cell? (x.add i) = some (.int .u8 (zs.getD i 0))) ∧ ∀ n ∈ zs, (Lit.int .u8 n).wf = true) :
    ∃ l : List UInt8, Bs l (.slice a len cap) w := by
  rcases h with ⟨rfl, rfl, rfl, rfl⟩ | ⟨x, rfl, hl, hm, hz, hc, hw⟩
  · exact ⟨[], .inl ⟨rfl, rfl⟩⟩
  · refine ⟨(zs.take len).map fun n => UInt8.ofNat n.toNat, .inr ⟨x, cap, ?_, ?_, hm, ?_⟩⟩
    · simp; omega
    · simp; omega
    · intro i hi
      have hi2 : i < len := by simp at hi; omega
      have hi3 : i < zs.length := by omega
      refine ⟨_, hc i hi3, ?_⟩
      have hb := byte_of_wf (hw (zs.getD i 0) (by rw [List.getD_eq_getElem?_getD, List.getElem?_eq_getElem hi3]; exact List.getElem_mem hi3))
      rw [getD_map _ _ _ (by simpa using hi)]
      show Value.int .u8 (zs.getD i 0) = byteV _
      rw [hb]
      congr 2
      simp [List.getD_eq_getElem?_getD, List.getElem?_eq_getElem hi3]

/-- A row of numbers that came in. -/
theorem ns_of_row {k : IntKind} {w : World} {a : Option Addr} {len cap : Nat} {zs : List Int}
    (h : (a = none ∧ len = 0 ∧ cap = 0 ∧ zs = []) ∨
      ∃ x, a = some x ∧ len ≤ cap ∧ cap ≤ maxLen ∧ zs.length = cap ∧ (∀ i, i < zs.length → w.cell? (x.add i) = some (.int k (zs.getD i 0))) ∧ ∀ n ∈ zs, (Lit.int k n).wf = true) :
    ∃ l : List Int, Ns k l (.slice a len cap) w ∧ ∀ n ∈ l, (Lit.int k n).wf = true := by
  rcases h with ⟨rfl, rfl, rfl, rfl⟩ | ⟨x, rfl, hl, hm, hz, hc, hw⟩
  · exact ⟨[], .inl ⟨rfl, rfl⟩, by simp⟩
  · refine ⟨zs.take len, .inr ⟨x, cap, ?_, ?_, hm, ?_⟩, fun n hn => hw n (List.mem_of_mem_take hn)⟩
    · simp; omega
    · simp; omega
    · intro i hi
      have hi2 : i < len := by simp at hi; omega
      have hi3 : i < zs.length := by omega
      refine ⟨_, hc i hi3, ?_⟩
      rw [getD_map _ _ _ (by simpa using hi)]
      show Value.int k (zs.getD i 0) = _
      simp [List.getD_eq_getElem?_getD, List.getElem?_eq_getElem hi3]

theorem wf_rng {k : IntKind} {n : Int} (h : (Lit.int k n).wf = true) : k.min ≤ n ∧ n ≤ k.max := by
  simpa only [Lit.wf, Bool.and_eq_true, decide_eq_true_eq] using h
theorem wf_u8 {n : Int} (h : (Lit.int .u8 n).wf = true) : 0 ≤ n ∧ n ≤ 255 := wf_rng h
theorem wf_u16 {n : Int} (h : (Lit.int .u16 n).wf = true) : 0 ≤ n ∧ n ≤ 65535 := wf_rng h
theorem wf_u32 {n : Int} (h : (Lit.int .u32 n).wf = true) : 0 ≤ n ∧ n ≤ 4294967295 := wf_rng h
theorem wf_i64 {n : Int} (h : (Lit.int .i64 n).wf = true) : -9223372036854775808 ≤ n ∧ n ≤ 9223372036854775807 := wf_rng h

/-- What a law's walk comes to. -/
theorem law_done {w w' : World} {e : Ending} (h : Ret (Is (.bool true)) w e w') : e = .returned (.bool true) ∧ Below w.heap.size w w' := by
  obtain ⟨v, rfl, hx, rfl⟩ := h
  exact ⟨rfl, hx⟩

end Go.Proofs.Ytdbjpfjnambenaa
