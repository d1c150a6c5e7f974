import Derived.Test.YtaalllmkjobajaaChecked
import Derived.Test.YtaalllmkjobajaaX
namespace Go.Proofs.Ytaalllmkjobajaa
theorem mixed : Try.prog.follows .mixedOrders = true := by kernel_rfl
theorem body10 : Body Try.prog 10 := ⟨_, Try.func10, by kernel_rfl, by kernel_rfl⟩
theorem body11 : Body Try.prog 11 := ⟨_, Try.func11, by kernel_rfl, by kernel_rfl⟩
theorem body12 : Body Try.prog 12 := ⟨_, Try.func12, by kernel_rfl, by kernel_rfl⟩
theorem body13 : Body Try.prog 13 := ⟨_, Try.func13, by kernel_rfl, by kernel_rfl⟩
theorem body14 : Body Try.prog 14 := ⟨_, Try.func14, by kernel_rfl, by kernel_rfl⟩
theorem body20 : Body Try.prog 20 := ⟨_, Try.func20, by kernel_rfl, by kernel_rfl⟩
theorem body21 : Body Try.prog 21 := ⟨_, Try.func21, by kernel_rfl, by kernel_rfl⟩
theorem body22 : Body Try.prog 22 := ⟨_, Try.func22, by kernel_rfl, by kernel_rfl⟩
theorem body23 : Body Try.prog 23 := ⟨_, Try.func23, by kernel_rfl, by kernel_rfl⟩
theorem body24 : Body Try.prog 24 := ⟨_, Try.func24, by kernel_rfl, by kernel_rfl⟩
theorem body25 : Body Try.prog 25 := ⟨_, Try.func25, by kernel_rfl, by kernel_rfl⟩
theorem body26 : Body Try.prog 26 := ⟨_, Try.func26, by kernel_rfl, by kernel_rfl⟩
theorem body9 : Body Try.prog 9 := ⟨_, Try.func9, by kernel_rfl, by kernel_rfl⟩
theorem built35 : Try.prog.built 35 [] = some (adrCells adr0).toArray := by kernel_rfl
theorem info3 : InfoIs Try.prog 3 (.int .i64 0) 8 := by unfold InfoIs; kernel_rfl
theorem info5 : InfoIs Try.prog 5 (.int .u8 0) 1 := by unfold InfoIs; kernel_rfl
theorem size22 : SizeIs Try.prog 22 1 := by unfold SizeIs; kernel_rfl
theorem size3 : SizeIs Try.prog 3 1 := by unfold SizeIs; kernel_rfl
theorem size33 : SizeIs Try.prog 33 16 := by unfold SizeIs; kernel_rfl
theorem size4 : SizeIs Try.prog 4 1 := by unfold SizeIs; kernel_rfl
theorem size5 : SizeIs Try.prog 5 1 := by unfold SizeIs; kernel_rfl
theorem zero22 : ZeroIs Try.prog 22 (.slice none 0 0) := by unfold ZeroIs; kernel_rfl
theorem zero3 : ZeroIs Try.prog 3 (.int .i64 0) := by unfold ZeroIs; kernel_rfl
theorem zero5 : ZeroIs Try.prog 5 (.int .u8 0) := by unfold ZeroIs; kernel_rfl
end Go.Proofs.Ytaalllmkjobajaa
