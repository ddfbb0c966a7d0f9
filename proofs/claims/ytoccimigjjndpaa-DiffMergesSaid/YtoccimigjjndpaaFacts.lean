/-
  Closed facts of this seat: each function has a body; slices of 32-bit digits.
-/
import Derived.Test.YtoccimigjjndpaaNum
import Derived.Test.YtoccimigjjndpaaChecked
import Derived.KernelRfl
namespace Go.Proofs.Ytoccimigjjndpaa
open Go
theorem mixed : Try.prog.follows .mixedOrders = true := by kernel_rfl
theorem enters3 : Enters Try.prog 3 := ⟨_, Try.func3, by kernel_rfl, rfl⟩
theorem enters4 : Enters Try.prog 4 := ⟨_, Try.func4, by kernel_rfl, rfl⟩
theorem enters5 : Enters Try.prog 5 := ⟨_, Try.func5, by kernel_rfl, rfl⟩
theorem enters6 : Enters Try.prog 6 := ⟨_, Try.func6, by kernel_rfl, rfl⟩
theorem enters7 : Enters Try.prog 7 := ⟨_, Try.func7, by kernel_rfl, rfl⟩
theorem enters8 : Enters Try.prog 8 := ⟨_, Try.func8, by kernel_rfl, rfl⟩
theorem enters9 : Enters Try.prog 9 := ⟨_, Try.func9, by kernel_rfl, rfl⟩
theorem enters10 : Enters Try.prog 10 := ⟨_, Try.func10, by kernel_rfl, rfl⟩
theorem enters11 : Enters Try.prog 11 := ⟨_, Try.func11, by kernel_rfl, rfl⟩
theorem enters12 : Enters Try.prog 12 := ⟨_, Try.func12, by kernel_rfl, rfl⟩
theorem enters13 : Enters Try.prog 13 := ⟨_, Try.func13, by kernel_rfl, rfl⟩
theorem enters14 : Enters Try.prog 14 := ⟨_, Try.func14, by kernel_rfl, rfl⟩
theorem enters15 : Enters Try.prog 15 := ⟨_, Try.func15, by kernel_rfl, rfl⟩
theorem enters16 : Enters Try.prog 16 := ⟨_, Try.func16, by kernel_rfl, rfl⟩
theorem enters17 : Enters Try.prog 17 := ⟨_, Try.func17, by kernel_rfl, rfl⟩
theorem enters18 : Enters Try.prog 18 := ⟨_, Try.func18, by kernel_rfl, rfl⟩
theorem enters19 : Enters Try.prog 19 := ⟨_, Try.func19, by kernel_rfl, rfl⟩
theorem enters20 : Enters Try.prog 20 := ⟨_, Try.func20, by kernel_rfl, rfl⟩
theorem enters21 : Enters Try.prog 21 := ⟨_, Try.func21, by kernel_rfl, rfl⟩
theorem enters22 : Enters Try.prog 22 := ⟨_, Try.func22, by kernel_rfl, rfl⟩
theorem enters23 : Enters Try.prog 23 := ⟨_, Try.func23, by kernel_rfl, rfl⟩
theorem enters24 : Enters Try.prog 24 := ⟨_, Try.func24, by kernel_rfl, rfl⟩
theorem enters25 : Enters Try.prog 25 := ⟨_, Try.func25, by kernel_rfl, rfl⟩
theorem enters26 : Enters Try.prog 26 := ⟨_, Try.func26, by kernel_rfl, rfl⟩
theorem enters27 : Enters Try.prog 27 := ⟨_, Try.func27, by kernel_rfl, rfl⟩
theorem enters28 : Enters Try.prog 28 := ⟨_, Try.func28, by kernel_rfl, rfl⟩
theorem enters29 : Enters Try.prog 29 := ⟨_, Try.func29, by kernel_rfl, rfl⟩
theorem enters30 : Enters Try.prog 30 := ⟨_, Try.func30, by kernel_rfl, rfl⟩
theorem enters31 : Enters Try.prog 31 := ⟨_, Try.func31, by kernel_rfl, rfl⟩
theorem enters32 : Enters Try.prog 32 := ⟨_, Try.func32, by kernel_rfl, rfl⟩
theorem enters33 : Enters Try.prog 33 := ⟨_, Try.func33, by kernel_rfl, rfl⟩
theorem enters34 : Enters Try.prog 34 := ⟨_, Try.func34, by kernel_rfl, rfl⟩
theorem enters35 : Enters Try.prog 35 := ⟨_, Try.func35, by kernel_rfl, rfl⟩
theorem enters36 : Enters Try.prog 36 := ⟨_, Try.func36, by kernel_rfl, rfl⟩
theorem enters37 : Enters Try.prog 37 := ⟨_, Try.func37, by kernel_rfl, rfl⟩
theorem enters38 : Enters Try.prog 38 := ⟨_, Try.func38, by kernel_rfl, rfl⟩
theorem enters39 : Enters Try.prog 39 := ⟨_, Try.func39, by kernel_rfl, rfl⟩
theorem enters40 : Enters Try.prog 40 := ⟨_, Try.func40, by kernel_rfl, rfl⟩
theorem enters41 : Enters Try.prog 41 := ⟨_, Try.func41, by kernel_rfl, rfl⟩
theorem enters42 : Enters Try.prog 42 := ⟨_, Try.func42, by kernel_rfl, rfl⟩
theorem enters43 : Enters Try.prog 43 := ⟨_, Try.func43, by kernel_rfl, rfl⟩
theorem enters44 : Enters Try.prog 44 := ⟨_, Try.func44, by kernel_rfl, rfl⟩
theorem enters45 : Enters Try.prog 45 := ⟨_, Try.func45, by kernel_rfl, rfl⟩
theorem enters46 : Enters Try.prog 46 := ⟨_, Try.func46, by kernel_rfl, rfl⟩
theorem enters47 : Enters Try.prog 47 := ⟨_, Try.func47, by kernel_rfl, rfl⟩
theorem enters48 : Enters Try.prog 48 := ⟨_, Try.func48, by kernel_rfl, rfl⟩
theorem enters49 : Enters Try.prog 49 := ⟨_, Try.func49, by kernel_rfl, rfl⟩
theorem enters50 : Enters Try.prog 50 := ⟨_, Try.func50, by kernel_rfl, rfl⟩
theorem enters51 : Enters Try.prog 51 := ⟨_, Try.func51, by kernel_rfl, rfl⟩
theorem enters52 : Enters Try.prog 52 := ⟨_, Try.func52, by kernel_rfl, rfl⟩
theorem enters53 : Enters Try.prog 53 := ⟨_, Try.func53, by kernel_rfl, rfl⟩
theorem enters54 : Enters Try.prog 54 := ⟨_, Try.func54, by kernel_rfl, rfl⟩
theorem enters55 : Enters Try.prog 55 := ⟨_, Try.func55, by kernel_rfl, rfl⟩
theorem enters56 : Enters Try.prog 56 := ⟨_, Try.func56, by kernel_rfl, rfl⟩
theorem enters57 : Enters Try.prog 57 := ⟨_, Try.func57, by kernel_rfl, rfl⟩
theorem enters58 : Enters Try.prog 58 := ⟨_, Try.func58, by kernel_rfl, rfl⟩
theorem enters59 : Enters Try.prog 59 := ⟨_, Try.func59, by kernel_rfl, rfl⟩
theorem enters60 : Enters Try.prog 60 := ⟨_, Try.func60, by kernel_rfl, rfl⟩
theorem enters61 : Enters Try.prog 61 := ⟨_, Try.func61, by kernel_rfl, rfl⟩
theorem enters62 : Enters Try.prog 62 := ⟨_, Try.func62, by kernel_rfl, rfl⟩
theorem enters63 : Enters Try.prog 63 := ⟨_, Try.func63, by kernel_rfl, rfl⟩
theorem enters64 : Enters Try.prog 64 := ⟨_, Try.func64, by kernel_rfl, rfl⟩
theorem enters65 : Enters Try.prog 65 := ⟨_, Try.func65, by kernel_rfl, rfl⟩
theorem enters66 : Enters Try.prog 66 := ⟨_, Try.func66, by kernel_rfl, rfl⟩
theorem enters67 : Enters Try.prog 67 := ⟨_, Try.func67, by kernel_rfl, rfl⟩
theorem enters68 : Enters Try.prog 68 := ⟨_, Try.func68, by kernel_rfl, rfl⟩
theorem enters69 : Enters Try.prog 69 := ⟨_, Try.func69, by kernel_rfl, rfl⟩
theorem enters70 : Enters Try.prog 70 := ⟨_, Try.func70, by kernel_rfl, rfl⟩
theorem enters71 : Enters Try.prog 71 := ⟨_, Try.func71, by kernel_rfl, rfl⟩
theorem enters72 : Enters Try.prog 72 := ⟨_, Try.func72, by kernel_rfl, rfl⟩
theorem enters73 : Enters Try.prog 73 := ⟨_, Try.func73, by kernel_rfl, rfl⟩
theorem enters74 : Enters Try.prog 74 := ⟨_, Try.func74, by kernel_rfl, rfl⟩
theorem enters75 : Enters Try.prog 75 := ⟨_, Try.func75, by kernel_rfl, rfl⟩
theorem enters76 : Enters Try.prog 76 := ⟨_, Try.func76, by kernel_rfl, rfl⟩
theorem enters77 : Enters Try.prog 77 := ⟨_, Try.func77, by kernel_rfl, rfl⟩
theorem enters78 : Enters Try.prog 78 := ⟨_, Try.func78, by kernel_rfl, rfl⟩
theorem enters79 : Enters Try.prog 79 := ⟨_, Try.func79, by kernel_rfl, rfl⟩
theorem enters80 : Enters Try.prog 80 := ⟨_, Try.func80, by kernel_rfl, rfl⟩
theorem enters81 : Enters Try.prog 81 := ⟨_, Try.func81, by kernel_rfl, rfl⟩
theorem enters82 : Enters Try.prog 82 := ⟨_, Try.func82, by kernel_rfl, rfl⟩
theorem enters83 : Enters Try.prog 83 := ⟨_, Try.func83, by kernel_rfl, rfl⟩
theorem enters84 : Enters Try.prog 84 := ⟨_, Try.func84, by kernel_rfl, rfl⟩
theorem enters85 : Enters Try.prog 85 := ⟨_, Try.func85, by kernel_rfl, rfl⟩
theorem enters86 : Enters Try.prog 86 := ⟨_, Try.func86, by kernel_rfl, rfl⟩
theorem enters87 : Enters Try.prog 87 := ⟨_, Try.func87, by kernel_rfl, rfl⟩
theorem enters88 : Enters Try.prog 88 := ⟨_, Try.func88, by kernel_rfl, rfl⟩
theorem enters89 : Enters Try.prog 89 := ⟨_, Try.func89, by kernel_rfl, rfl⟩
theorem enters90 : Enters Try.prog 90 := ⟨_, Try.func90, by kernel_rfl, rfl⟩
theorem enters91 : Enters Try.prog 91 := ⟨_, Try.func91, by kernel_rfl, rfl⟩
theorem enters92 : Enters Try.prog 92 := ⟨_, Try.func92, by kernel_rfl, rfl⟩
theorem enters93 : Enters Try.prog 93 := ⟨_, Try.func93, by kernel_rfl, rfl⟩
end Go.Proofs.Ytoccimigjjndpaa
