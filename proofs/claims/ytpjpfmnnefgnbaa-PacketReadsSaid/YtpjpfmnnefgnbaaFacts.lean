import Derived.Test.YtpjpfmnnefgnbaaChecked
import Derived.Test.YtpjpfmnnefgnbaaT11
namespace Go.Proofs.Ytpjpfmnnefgnbaa
theorem mixed : Try.prog.follows .mixedOrders = true := by kernel_rfl
theorem body10 : Body Try.prog 10 := ⟨_, Try.func10, by kernel_rfl, by kernel_rfl⟩
theorem body11 : Body Try.prog 11 := ⟨_, Try.func11, by kernel_rfl, by kernel_rfl⟩
theorem body12 : Body Try.prog 12 := ⟨_, Try.func12, by kernel_rfl, by kernel_rfl⟩
theorem body18 : Body Try.prog 18 := ⟨_, Try.func18, by kernel_rfl, by kernel_rfl⟩
theorem body20 : Body Try.prog 20 := ⟨_, Try.func20, by kernel_rfl, by kernel_rfl⟩
theorem body22 : Body Try.prog 22 := ⟨_, Try.func22, by kernel_rfl, by kernel_rfl⟩
theorem body23 : Body Try.prog 23 := ⟨_, Try.func23, by kernel_rfl, by kernel_rfl⟩
theorem body24 : Body Try.prog 24 := ⟨_, Try.func24, by kernel_rfl, by kernel_rfl⟩
theorem body25 : Body Try.prog 25 := ⟨_, Try.func25, by kernel_rfl, by kernel_rfl⟩
theorem body26 : Body Try.prog 26 := ⟨_, Try.func26, by kernel_rfl, by kernel_rfl⟩
theorem body27 : Body Try.prog 27 := ⟨_, Try.func27, by kernel_rfl, by kernel_rfl⟩
theorem body28 : Body Try.prog 28 := ⟨_, Try.func28, by kernel_rfl, by kernel_rfl⟩
theorem body29 : Body Try.prog 29 := ⟨_, Try.func29, by kernel_rfl, by kernel_rfl⟩
theorem body30 : Body Try.prog 30 := ⟨_, Try.func30, by kernel_rfl, by kernel_rfl⟩
theorem body31 : Body Try.prog 31 := ⟨_, Try.func31, by kernel_rfl, by kernel_rfl⟩
theorem body32 : Body Try.prog 32 := ⟨_, Try.func32, by kernel_rfl, by kernel_rfl⟩
theorem body33 : Body Try.prog 33 := ⟨_, Try.func33, by kernel_rfl, by kernel_rfl⟩
theorem body34 : Body Try.prog 34 := ⟨_, Try.func34, by kernel_rfl, by kernel_rfl⟩
theorem body35 : Body Try.prog 35 := ⟨_, Try.func35, by kernel_rfl, by kernel_rfl⟩
theorem body36 : Body Try.prog 36 := ⟨_, Try.func36, by kernel_rfl, by kernel_rfl⟩
theorem body44 : Body Try.prog 44 := ⟨_, Try.func44, by kernel_rfl, by kernel_rfl⟩
theorem body46 : Body Try.prog 46 := ⟨_, Try.func46, by kernel_rfl, by kernel_rfl⟩
theorem body47 : Body Try.prog 47 := ⟨_, Try.func47, by kernel_rfl, by kernel_rfl⟩
theorem body48 : Body Try.prog 48 := ⟨_, Try.func48, by kernel_rfl, by kernel_rfl⟩
theorem body49 : Body Try.prog 49 := ⟨_, Try.func49, by kernel_rfl, by kernel_rfl⟩
theorem body50 : Body Try.prog 50 := ⟨_, Try.func50, by kernel_rfl, by kernel_rfl⟩
theorem body51 : Body Try.prog 51 := ⟨_, Try.func51, by kernel_rfl, by kernel_rfl⟩
theorem body52 : Body Try.prog 52 := ⟨_, Try.func52, by kernel_rfl, by kernel_rfl⟩
theorem body53 : Body Try.prog 53 := ⟨_, Try.func53, by kernel_rfl, by kernel_rfl⟩
theorem body54 : Body Try.prog 54 := ⟨_, Try.func54, by kernel_rfl, by kernel_rfl⟩
theorem body55 : Body Try.prog 55 := ⟨_, Try.func55, by kernel_rfl, by kernel_rfl⟩
theorem body56 : Body Try.prog 56 := ⟨_, Try.func56, by kernel_rfl, by kernel_rfl⟩
theorem body57 : Body Try.prog 57 := ⟨_, Try.func57, by kernel_rfl, by kernel_rfl⟩
theorem body58 : Body Try.prog 58 := ⟨_, Try.func58, by kernel_rfl, by kernel_rfl⟩
theorem body59 : Body Try.prog 59 := ⟨_, Try.func59, by kernel_rfl, by kernel_rfl⟩
theorem body60 : Body Try.prog 60 := ⟨_, Try.func60, by kernel_rfl, by kernel_rfl⟩
theorem body61 : Body Try.prog 61 := ⟨_, Try.func61, by kernel_rfl, by kernel_rfl⟩
theorem body62 : Body Try.prog 62 := ⟨_, Try.func62, by kernel_rfl, by kernel_rfl⟩
theorem body63 : Body Try.prog 63 := ⟨_, Try.func63, by kernel_rfl, by kernel_rfl⟩
theorem body64 : Body Try.prog 64 := ⟨_, Try.func64, by kernel_rfl, by kernel_rfl⟩
theorem body65 : Body Try.prog 65 := ⟨_, Try.func65, by kernel_rfl, by kernel_rfl⟩
theorem body66 : Body Try.prog 66 := ⟨_, Try.func66, by kernel_rfl, by kernel_rfl⟩
theorem body67 : Body Try.prog 67 := ⟨_, Try.func67, by kernel_rfl, by kernel_rfl⟩
theorem body68 : Body Try.prog 68 := ⟨_, Try.func68, by kernel_rfl, by kernel_rfl⟩
theorem body72 : Body Try.prog 72 := ⟨_, Try.func72, by kernel_rfl, by kernel_rfl⟩
theorem body73 : Body Try.prog 73 := ⟨_, Try.func73, by kernel_rfl, by kernel_rfl⟩
theorem body74 : Body Try.prog 74 := ⟨_, Try.func74, by kernel_rfl, by kernel_rfl⟩
theorem body75 : Body Try.prog 75 := ⟨_, Try.func75, by kernel_rfl, by kernel_rfl⟩
theorem body76 : Body Try.prog 76 := ⟨_, Try.func76, by kernel_rfl, by kernel_rfl⟩
theorem body77 : Body Try.prog 77 := ⟨_, Try.func77, by kernel_rfl, by kernel_rfl⟩
theorem body78 : Body Try.prog 78 := ⟨_, Try.func78, by kernel_rfl, by kernel_rfl⟩
theorem body79 : Body Try.prog 79 := ⟨_, Try.func79, by kernel_rfl, by kernel_rfl⟩
theorem body80 : Body Try.prog 80 := ⟨_, Try.func80, by kernel_rfl, by kernel_rfl⟩
theorem body81 : Body Try.prog 81 := ⟨_, Try.func81, by kernel_rfl, by kernel_rfl⟩
theorem body82 : Body Try.prog 82 := ⟨_, Try.func82, by kernel_rfl, by kernel_rfl⟩
theorem body83 : Body Try.prog 83 := ⟨_, Try.func83, by kernel_rfl, by kernel_rfl⟩
theorem body84 : Body Try.prog 84 := ⟨_, Try.func84, by kernel_rfl, by kernel_rfl⟩
theorem body85 : Body Try.prog 85 := ⟨_, Try.func85, by kernel_rfl, by kernel_rfl⟩
theorem body86 : Body Try.prog 86 := ⟨_, Try.func86, by kernel_rfl, by kernel_rfl⟩
theorem body87 : Body Try.prog 87 := ⟨_, Try.func87, by kernel_rfl, by kernel_rfl⟩
theorem body89 : Body Try.prog 89 := ⟨_, Try.func89, by kernel_rfl, by kernel_rfl⟩
theorem body9 : Body Try.prog 9 := ⟨_, Try.func9, by kernel_rfl, by kernel_rfl⟩
theorem body90 : Body Try.prog 90 := ⟨_, Try.func90, by kernel_rfl, by kernel_rfl⟩
theorem body91 : Body Try.prog 91 := ⟨_, Try.func91, by kernel_rfl, by kernel_rfl⟩
theorem built28 : Try.prog.built 28 [] = some (tupS tup0).flatten.toArray := by kernel_rfl
theorem built36 : Try.prog.built 36 [] = some (lnkS link0 (.slice none 0 0)).flatten.toArray := by kernel_rfl
theorem built65 : Try.prog.built 65 [] = some (portS port0).flatten.toArray := by kernel_rfl
theorem built71 : Try.prog.built 71 [] = some (fourS four0).flatten.toArray := by kernel_rfl
theorem built75 : Try.prog.built 75 [] = some (sixS six0).flatten.toArray := by kernel_rfl
theorem eqg30 : Try.prog.eqGuardType Try.prog.depth 30 = false := by kernel_rfl
theorem info3 : InfoIs Try.prog 3 (.int .i64 0) 8 := by unfold InfoIs; kernel_rfl
theorem info5 : InfoIs Try.prog 5 (.int .u8 0) 1 := by unfold InfoIs; kernel_rfl
theorem infom97 : InfoM Try.prog 97 (.agg ([.int .i64 0, .int .i64 0]).toArray) 2 16 := by unfold InfoM; kernel_rfl
theorem lay26 : LayIs Try.prog 26 [1, 16] [[.bool false], ((List.replicate 16 0).map byteV)] := ⟨by kernel_rfl, by kernel_rfl, _, Try.underlying26, by kernel_rfl⟩
theorem lay28 : LayIs Try.prog 28 [17, 17, 1, 1, 1] [(adrCells adr0), (adrCells adr0), [.int .i64 0], [.int .i64 0], [.int .i64 0]] := ⟨by kernel_rfl, by kernel_rfl, _, Try.underlying28, by kernel_rfl⟩
theorem lay30 : LayIs Try.prog 30 [1, 37, 1, 1, 1, 1] [[.int .i64 0], [(adrCells adr0), (adrCells adr0), [.int .i64 0], [.int .i64 0], [.int .i64 0]].flatten, [.int .i64 0], [.int .i64 0], [.int .i64 0], [.int .i64 0]] := ⟨by kernel_rfl, by kernel_rfl, _, Try.underlying30, by kernel_rfl⟩
theorem lay36 : LayIs Try.prog 36 [6, 6, 1, 1, 1] [((List.replicate 6 0).map byteV), ((List.replicate 6 0).map byteV), [.slice none 0 0], [.int .i64 0], [.int .i64 0]] := ⟨by kernel_rfl, by kernel_rfl, _, Try.underlying36, by kernel_rfl⟩
theorem lay60 : LayIs Try.prog 60 [1, 1, 1, 1, 17, 17] [[.int .i64 0], [.int .i64 0], [.int .i64 0], [.bool false], (adrCells adr0), (adrCells adr0)] := ⟨by kernel_rfl, by kernel_rfl, _, Try.underlying60, by kernel_rfl⟩
theorem lay65 : LayIs Try.prog 65 [1, 1, 1, 1, 1] [[.int .i64 0], [.int .i64 0], [.int .i64 0], [.int .i64 0], [.int .i64 0]] := ⟨by kernel_rfl, by kernel_rfl, _, Try.underlying65, by kernel_rfl⟩
theorem lay71 : LayIs Try.prog 71 [1, 1, 1, 1, 1, 1, 1, 1, 17, 17] [[.int .i64 0], [.int .i64 0], [.int .i64 0], [.int .i64 0], [.bool false], [.bool false], [.int .i64 0], [.int .i64 0], (adrCells adr0), (adrCells adr0)] := ⟨by kernel_rfl, by kernel_rfl, _, Try.underlying71, by kernel_rfl⟩
theorem lay75 : LayIs Try.prog 75 [1, 1, 1, 1, 1, 1, 17, 17] [[.int .i64 0], [.int .i64 0], [.int .i64 0], [.bool false], [.int .i64 0], [.int .i64 0], (adrCells adr0), (adrCells adr0)] := ⟨by kernel_rfl, by kernel_rfl, _, Try.underlying75, by kernel_rfl⟩
theorem lay97 : LayIs Try.prog 97 [1, 1] [[.int .i64 0], [.int .i64 0]] := ⟨by kernel_rfl, by kernel_rfl, _, Try.underlying97, by kernel_rfl⟩
theorem size105 : SizeIs Try.prog 105 1 := by unfold SizeIs; kernel_rfl
theorem size22 : SizeIs Try.prog 22 1 := by unfold SizeIs; kernel_rfl
theorem size24 : SizeIs Try.prog 24 16 := by unfold SizeIs; kernel_rfl
theorem size26 : SizeIs Try.prog 26 17 := by unfold SizeIs; kernel_rfl
theorem size28 : SizeIs Try.prog 28 37 := by unfold SizeIs; kernel_rfl
theorem size3 : SizeIs Try.prog 3 1 := by unfold SizeIs; kernel_rfl
theorem size30 : SizeIs Try.prog 30 42 := by unfold SizeIs; kernel_rfl
theorem size33 : SizeIs Try.prog 33 6 := by unfold SizeIs; kernel_rfl
theorem size34 : SizeIs Try.prog 34 1 := by unfold SizeIs; kernel_rfl
theorem size36 : SizeIs Try.prog 36 15 := by unfold SizeIs; kernel_rfl
theorem size4 : SizeIs Try.prog 4 1 := by unfold SizeIs; kernel_rfl
theorem size5 : SizeIs Try.prog 5 1 := by unfold SizeIs; kernel_rfl
theorem size60 : SizeIs Try.prog 60 38 := by unfold SizeIs; kernel_rfl
theorem size65 : SizeIs Try.prog 65 5 := by unfold SizeIs; kernel_rfl
theorem size71 : SizeIs Try.prog 71 42 := by unfold SizeIs; kernel_rfl
theorem size75 : SizeIs Try.prog 75 40 := by unfold SizeIs; kernel_rfl
theorem size97 : SizeIs Try.prog 97 2 := by unfold SizeIs; kernel_rfl
theorem zero22 : ZeroIs Try.prog 22 (.slice none 0 0) := by unfold ZeroIs; kernel_rfl
theorem zero3 : ZeroIs Try.prog 3 (.int .i64 0) := by unfold ZeroIs; kernel_rfl
theorem zero5 : ZeroIs Try.prog 5 (.int .u8 0) := by unfold ZeroIs; kernel_rfl
theorem zerom97 : ZeroIs Try.prog 97 (.agg ([.int .i64 0, .int .i64 0]).toArray) := by unfold ZeroIs; kernel_rfl
theorem zerov105 : ZeroIs Try.prog 105 (.int .u64 0) := by unfold ZeroIs; kernel_rfl
theorem zerov26 : ZeroIs Try.prog 26 (.agg ((adrCells adr0)).toArray) := by unfold ZeroIs; kernel_rfl
theorem zerov28 : ZeroIs Try.prog 28 (.agg ([(adrCells adr0), (adrCells adr0), [.int .i64 0], [.int .i64 0], [.int .i64 0]].flatten).toArray) := by unfold ZeroIs; kernel_rfl
theorem zerov30 : ZeroIs Try.prog 30 (.agg ([[.int .i64 0], [(adrCells adr0), (adrCells adr0), [.int .i64 0], [.int .i64 0], [.int .i64 0]].flatten, [.int .i64 0], [.int .i64 0], [.int .i64 0], [.int .i64 0]].flatten).toArray) := by unfold ZeroIs; kernel_rfl
theorem zerov36 : ZeroIs Try.prog 36 (.agg ([((List.replicate 6 0).map byteV), ((List.replicate 6 0).map byteV), [.slice none 0 0], [.int .i64 0], [.int .i64 0]].flatten).toArray) := by unfold ZeroIs; kernel_rfl
theorem zerov60 : ZeroIs Try.prog 60 (.agg ([[.int .i64 0], [.int .i64 0], [.int .i64 0], [.bool false], (adrCells adr0), (adrCells adr0)].flatten).toArray) := by unfold ZeroIs; kernel_rfl
theorem zerov65 : ZeroIs Try.prog 65 (.agg ([[.int .i64 0], [.int .i64 0], [.int .i64 0], [.int .i64 0], [.int .i64 0]].flatten).toArray) := by unfold ZeroIs; kernel_rfl
theorem zerov71 : ZeroIs Try.prog 71 (.agg ([[.int .i64 0], [.int .i64 0], [.int .i64 0], [.int .i64 0], [.bool false], [.bool false], [.int .i64 0], [.int .i64 0], (adrCells adr0), (adrCells adr0)].flatten).toArray) := by unfold ZeroIs; kernel_rfl
theorem zerov75 : ZeroIs Try.prog 75 (.agg ([[.int .i64 0], [.int .i64 0], [.int .i64 0], [.bool false], [.int .i64 0], [.int .i64 0], (adrCells adr0), (adrCells adr0)].flatten).toArray) := by unfold ZeroIs; kernel_rfl
theorem zerov97 : ZeroIs Try.prog 97 (.agg ([[.int .i64 0], [.int .i64 0]].flatten).toArray) := by unfold ZeroIs; kernel_rfl
end Go.Proofs.Ytpjpfmnnefgnbaa
