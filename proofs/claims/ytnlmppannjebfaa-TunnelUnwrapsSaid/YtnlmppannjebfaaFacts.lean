import Derived.Test.YtnlmppannjebfaaChecked
import Derived.Test.YtnlmppannjebfaaS13
namespace Go.Proofs.Ytnlmppannjebfaa
theorem mixed : Try.prog.follows .mixedOrders = true := by kernel_rfl
theorem body10 : Body Try.prog 10 := ⟨_, Try.func10, by kernel_rfl, by kernel_rfl⟩
theorem body11 : Body Try.prog 11 := ⟨_, Try.func11, by kernel_rfl, by kernel_rfl⟩
theorem body12 : Body Try.prog 12 := ⟨_, Try.func12, by kernel_rfl, by kernel_rfl⟩
theorem body13 : Body Try.prog 13 := ⟨_, Try.func13, by kernel_rfl, by kernel_rfl⟩
theorem body14 : Body Try.prog 14 := ⟨_, Try.func14, by kernel_rfl, by kernel_rfl⟩
theorem body15 : Body Try.prog 15 := ⟨_, Try.func15, by kernel_rfl, by kernel_rfl⟩
theorem body16 : Body Try.prog 16 := ⟨_, Try.func16, by kernel_rfl, by kernel_rfl⟩
theorem body17 : Body Try.prog 17 := ⟨_, Try.func17, by kernel_rfl, by kernel_rfl⟩
theorem body18 : Body Try.prog 18 := ⟨_, Try.func18, by kernel_rfl, by kernel_rfl⟩
theorem body19 : Body Try.prog 19 := ⟨_, Try.func19, by kernel_rfl, by kernel_rfl⟩
theorem body20 : Body Try.prog 20 := ⟨_, Try.func20, by kernel_rfl, by kernel_rfl⟩
theorem body21 : Body Try.prog 21 := ⟨_, Try.func21, by kernel_rfl, by kernel_rfl⟩
theorem body22 : Body Try.prog 22 := ⟨_, Try.func22, by kernel_rfl, by kernel_rfl⟩
theorem body23 : Body Try.prog 23 := ⟨_, Try.func23, by kernel_rfl, by kernel_rfl⟩
theorem body24 : Body Try.prog 24 := ⟨_, Try.func24, by kernel_rfl, by kernel_rfl⟩
theorem body25 : Body Try.prog 25 := ⟨_, Try.func25, by kernel_rfl, by kernel_rfl⟩
theorem body26 : Body Try.prog 26 := ⟨_, Try.func26, by kernel_rfl, by kernel_rfl⟩
theorem body27 : Body Try.prog 27 := ⟨_, Try.func27, by kernel_rfl, by kernel_rfl⟩
theorem body28 : Body Try.prog 28 := ⟨_, Try.func28, by kernel_rfl, by kernel_rfl⟩
theorem body29 : Body Try.prog 29 := ⟨_, Try.func29, by kernel_rfl, by kernel_rfl⟩
theorem body30 : Body Try.prog 30 := ⟨_, Try.func30, by kernel_rfl, by kernel_rfl⟩
theorem body31 : Body Try.prog 31 := ⟨_, Try.func31, by kernel_rfl, by kernel_rfl⟩
theorem body32 : Body Try.prog 32 := ⟨_, Try.func32, by kernel_rfl, by kernel_rfl⟩
theorem body33 : Body Try.prog 33 := ⟨_, Try.func33, by kernel_rfl, by kernel_rfl⟩
theorem body34 : Body Try.prog 34 := ⟨_, Try.func34, by kernel_rfl, by kernel_rfl⟩
theorem body35 : Body Try.prog 35 := ⟨_, Try.func35, by kernel_rfl, by kernel_rfl⟩
theorem body36 : Body Try.prog 36 := ⟨_, Try.func36, by kernel_rfl, by kernel_rfl⟩
theorem body37 : Body Try.prog 37 := ⟨_, Try.func37, by kernel_rfl, by kernel_rfl⟩
theorem body38 : Body Try.prog 38 := ⟨_, Try.func38, by kernel_rfl, by kernel_rfl⟩
theorem body39 : Body Try.prog 39 := ⟨_, Try.func39, by kernel_rfl, by kernel_rfl⟩
theorem body40 : Body Try.prog 40 := ⟨_, Try.func40, by kernel_rfl, by kernel_rfl⟩
theorem body41 : Body Try.prog 41 := ⟨_, Try.func41, by kernel_rfl, by kernel_rfl⟩
theorem body42 : Body Try.prog 42 := ⟨_, Try.func42, by kernel_rfl, by kernel_rfl⟩
theorem body43 : Body Try.prog 43 := ⟨_, Try.func43, by kernel_rfl, by kernel_rfl⟩
theorem body44 : Body Try.prog 44 := ⟨_, Try.func44, by kernel_rfl, by kernel_rfl⟩
theorem body45 : Body Try.prog 45 := ⟨_, Try.func45, by kernel_rfl, by kernel_rfl⟩
theorem body46 : Body Try.prog 46 := ⟨_, Try.func46, by kernel_rfl, by kernel_rfl⟩
theorem body47 : Body Try.prog 47 := ⟨_, Try.func47, by kernel_rfl, by kernel_rfl⟩
theorem body48 : Body Try.prog 48 := ⟨_, Try.func48, by kernel_rfl, by kernel_rfl⟩
theorem body49 : Body Try.prog 49 := ⟨_, Try.func49, by kernel_rfl, by kernel_rfl⟩
theorem body50 : Body Try.prog 50 := ⟨_, Try.func50, by kernel_rfl, by kernel_rfl⟩
theorem body51 : Body Try.prog 51 := ⟨_, Try.func51, by kernel_rfl, by kernel_rfl⟩
theorem body52 : Body Try.prog 52 := ⟨_, Try.func52, by kernel_rfl, by kernel_rfl⟩
theorem body53 : Body Try.prog 53 := ⟨_, Try.func53, by kernel_rfl, by kernel_rfl⟩
theorem body54 : Body Try.prog 54 := ⟨_, Try.func54, by kernel_rfl, by kernel_rfl⟩
theorem body55 : Body Try.prog 55 := ⟨_, Try.func55, by kernel_rfl, by kernel_rfl⟩
theorem body56 : Body Try.prog 56 := ⟨_, Try.func56, by kernel_rfl, by kernel_rfl⟩
theorem body57 : Body Try.prog 57 := ⟨_, Try.func57, by kernel_rfl, by kernel_rfl⟩
theorem body58 : Body Try.prog 58 := ⟨_, Try.func58, by kernel_rfl, by kernel_rfl⟩
theorem body59 : Body Try.prog 59 := ⟨_, Try.func59, by kernel_rfl, by kernel_rfl⟩
theorem body60 : Body Try.prog 60 := ⟨_, Try.func60, by kernel_rfl, by kernel_rfl⟩
theorem body61 : Body Try.prog 61 := ⟨_, Try.func61, by kernel_rfl, by kernel_rfl⟩
theorem body62 : Body Try.prog 62 := ⟨_, Try.func62, by kernel_rfl, by kernel_rfl⟩
theorem body63 : Body Try.prog 63 := ⟨_, Try.func63, by kernel_rfl, by kernel_rfl⟩
theorem body64 : Body Try.prog 64 := ⟨_, Try.func64, by kernel_rfl, by kernel_rfl⟩
theorem body65 : Body Try.prog 65 := ⟨_, Try.func65, by kernel_rfl, by kernel_rfl⟩
theorem body66 : Body Try.prog 66 := ⟨_, Try.func66, by kernel_rfl, by kernel_rfl⟩
theorem body67 : Body Try.prog 67 := ⟨_, Try.func67, by kernel_rfl, by kernel_rfl⟩
theorem body68 : Body Try.prog 68 := ⟨_, Try.func68, by kernel_rfl, by kernel_rfl⟩
theorem body69 : Body Try.prog 69 := ⟨_, Try.func69, by kernel_rfl, by kernel_rfl⟩
theorem body70 : Body Try.prog 70 := ⟨_, Try.func70, by kernel_rfl, by kernel_rfl⟩
theorem body71 : Body Try.prog 71 := ⟨_, Try.func71, by kernel_rfl, by kernel_rfl⟩
theorem body72 : Body Try.prog 72 := ⟨_, Try.func72, by kernel_rfl, by kernel_rfl⟩
theorem body73 : Body Try.prog 73 := ⟨_, Try.func73, by kernel_rfl, by kernel_rfl⟩
theorem body74 : Body Try.prog 74 := ⟨_, Try.func74, by kernel_rfl, by kernel_rfl⟩
theorem body75 : Body Try.prog 75 := ⟨_, Try.func75, by kernel_rfl, by kernel_rfl⟩
theorem body76 : Body Try.prog 76 := ⟨_, Try.func76, by kernel_rfl, by kernel_rfl⟩
theorem body9 : Body Try.prog 9 := ⟨_, Try.func9, by kernel_rfl, by kernel_rfl⟩
theorem built113 : Try.prog.built 113 [] = some (portS port0).flatten.toArray := by kernel_rfl
theorem built41 : Try.prog.built 41 [] = some (lnkS link0 (.slice none 0 0)).flatten.toArray := by kernel_rfl
theorem built54 : Try.prog.built 54 [] = some (netS net0).flatten.toArray := by kernel_rfl
theorem built60 : Try.prog.built 60 [] = some (sixS six0).flatten.toArray := by kernel_rfl
theorem built64 : Try.prog.built 64 [] = some (fourS four0).flatten.toArray := by kernel_rfl
theorem eqg38 : Try.prog.eqGuardType Try.prog.depth 38 = false := by kernel_rfl
theorem eqg74 : Try.prog.eqGuardType Try.prog.depth 74 = false := by kernel_rfl
theorem info3 : InfoIs Try.prog 3 (.int .i64 0) 8 := by unfold InfoIs; kernel_rfl
theorem info5 : InfoIs Try.prog 5 (.int .u8 0) 1 := by unfold InfoIs; kernel_rfl
theorem infom74 : InfoM Try.prog 74 (.agg ([.int .i64 0, .int .i64 0]).toArray) 2 16 := by unfold InfoM; kernel_rfl
theorem lay113 : LayIs Try.prog 113 [1, 1, 1, 1, 1] [[.int .i64 0], [.int .i64 0], [.int .i64 0], [.int .i64 0], [.int .i64 0]] := ⟨by kernel_rfl, by kernel_rfl, _, Try.underlying113, by kernel_rfl⟩
theorem lay25 : LayIs Try.prog 25 [1, 16] [[.bool false], ((List.replicate 16 0).map byteV)] := ⟨by kernel_rfl, by kernel_rfl, _, Try.underlying25, by kernel_rfl⟩
theorem lay41 : LayIs Try.prog 41 [6, 6, 1, 1, 1] [((List.replicate 6 0).map byteV), ((List.replicate 6 0).map byteV), [.slice none 0 0], [.int .i64 0], [.int .i64 0]] := ⟨by kernel_rfl, by kernel_rfl, _, Try.underlying41, by kernel_rfl⟩
theorem lay51 : LayIs Try.prog 51 [17, 17, 1, 1, 1] [(adrCells adr0), (adrCells adr0), [.int .i64 0], [.int .i64 0], [.int .i64 0]] := ⟨by kernel_rfl, by kernel_rfl, _, Try.underlying51, by kernel_rfl⟩
theorem lay54 : LayIs Try.prog 54 [1, 1, 1, 1, 1] [[.int .i64 0], [.int .i64 0], [.int .i64 0], [.bool false], [.bool false]] := ⟨by kernel_rfl, by kernel_rfl, _, Try.underlying54, by kernel_rfl⟩
theorem lay60 : LayIs Try.prog 60 [1, 1, 1, 1, 1, 1, 17, 17] [[.int .i64 0], [.int .i64 0], [.int .i64 0], [.bool false], [.int .i64 0], [.int .i64 0], (adrCells adr0), (adrCells adr0)] := ⟨by kernel_rfl, by kernel_rfl, _, Try.underlying60, by kernel_rfl⟩
theorem lay64 : LayIs Try.prog 64 [1, 1, 1, 1, 1, 1, 1, 1, 17, 17] [[.int .i64 0], [.int .i64 0], [.int .i64 0], [.int .i64 0], [.bool false], [.bool false], [.int .i64 0], [.int .i64 0], (adrCells adr0), (adrCells adr0)] := ⟨by kernel_rfl, by kernel_rfl, _, Try.underlying64, by kernel_rfl⟩
theorem lay74 : LayIs Try.prog 74 [1, 1] [[.int .i64 0], [.int .i64 0]] := ⟨by kernel_rfl, by kernel_rfl, _, Try.underlying74, by kernel_rfl⟩
theorem size113 : SizeIs Try.prog 113 5 := by unfold SizeIs; kernel_rfl
theorem size22 : SizeIs Try.prog 22 1 := by unfold SizeIs; kernel_rfl
theorem size23 : SizeIs Try.prog 23 16 := by unfold SizeIs; kernel_rfl
theorem size25 : SizeIs Try.prog 25 17 := by unfold SizeIs; kernel_rfl
theorem size3 : SizeIs Try.prog 3 1 := by unfold SizeIs; kernel_rfl
theorem size38 : SizeIs Try.prog 38 6 := by unfold SizeIs; kernel_rfl
theorem size39 : SizeIs Try.prog 39 1 := by unfold SizeIs; kernel_rfl
theorem size4 : SizeIs Try.prog 4 1 := by unfold SizeIs; kernel_rfl
theorem size41 : SizeIs Try.prog 41 15 := by unfold SizeIs; kernel_rfl
theorem size5 : SizeIs Try.prog 5 1 := by unfold SizeIs; kernel_rfl
theorem size51 : SizeIs Try.prog 51 37 := by unfold SizeIs; kernel_rfl
theorem size54 : SizeIs Try.prog 54 5 := by unfold SizeIs; kernel_rfl
theorem size60 : SizeIs Try.prog 60 40 := by unfold SizeIs; kernel_rfl
theorem size64 : SizeIs Try.prog 64 42 := by unfold SizeIs; kernel_rfl
theorem size74 : SizeIs Try.prog 74 2 := by unfold SizeIs; kernel_rfl
theorem size86 : SizeIs Try.prog 86 1 := by unfold SizeIs; kernel_rfl
theorem zero22 : ZeroIs Try.prog 22 (.slice none 0 0) := by unfold ZeroIs; kernel_rfl
theorem zero3 : ZeroIs Try.prog 3 (.int .i64 0) := by unfold ZeroIs; kernel_rfl
theorem zero5 : ZeroIs Try.prog 5 (.int .u8 0) := by unfold ZeroIs; kernel_rfl
theorem zerom74 : ZeroIs Try.prog 74 (.agg ([.int .i64 0, .int .i64 0]).toArray) := by unfold ZeroIs; kernel_rfl
theorem zerov113 : ZeroIs Try.prog 113 (.agg ([[.int .i64 0], [.int .i64 0], [.int .i64 0], [.int .i64 0], [.int .i64 0]].flatten).toArray) := by unfold ZeroIs; kernel_rfl
theorem zerov25 : ZeroIs Try.prog 25 (.agg ((adrCells adr0)).toArray) := by unfold ZeroIs; kernel_rfl
theorem zerov41 : ZeroIs Try.prog 41 (.agg ([((List.replicate 6 0).map byteV), ((List.replicate 6 0).map byteV), [.slice none 0 0], [.int .i64 0], [.int .i64 0]].flatten).toArray) := by unfold ZeroIs; kernel_rfl
theorem zerov54 : ZeroIs Try.prog 54 (.agg ([[.int .i64 0], [.int .i64 0], [.int .i64 0], [.bool false], [.bool false]].flatten).toArray) := by unfold ZeroIs; kernel_rfl
theorem zerov60 : ZeroIs Try.prog 60 (.agg ([[.int .i64 0], [.int .i64 0], [.int .i64 0], [.bool false], [.int .i64 0], [.int .i64 0], (adrCells adr0), (adrCells adr0)].flatten).toArray) := by unfold ZeroIs; kernel_rfl
theorem zerov64 : ZeroIs Try.prog 64 (.agg ([[.int .i64 0], [.int .i64 0], [.int .i64 0], [.int .i64 0], [.bool false], [.bool false], [.int .i64 0], [.int .i64 0], (adrCells adr0), (adrCells adr0)].flatten).toArray) := by unfold ZeroIs; kernel_rfl
theorem zerov74 : ZeroIs Try.prog 74 (.agg ([[.int .i64 0], [.int .i64 0]].flatten).toArray) := by unfold ZeroIs; kernel_rfl
theorem zerov86 : ZeroIs Try.prog 86 (.int .u64 0) := by unfold ZeroIs; kernel_rfl
end Go.Proofs.Ytnlmppannjebfaa
