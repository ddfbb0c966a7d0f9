/-
  Closed facts of this seat: each function has a body; slices of 32-bit digits.
-/
import Derived.Test.YtijnlfhaepcldaaNum
import Derived.Test.YtijnlfhaepcldaaChecked
import Derived.KernelRfl
namespace Go.Proofs.Ytijnlfhaepcldaa
open Go
theorem T22 : ElT Try.prog 22 29 (.int .u32 0) 4 := ElT.mk' Try.underlying22 (by kernel_rfl)
theorem T36 : ElT Try.prog 36 22 (.slice none 0 0) 24 := ElT.mk' Try.underlying36 (by kernel_rfl)
theorem mixed : Try.prog.follows .mixedOrders = true := by kernel_rfl
theorem enters3 : Enters Try.prog 3 := ⟨_, Try.func3, by kernel_rfl, rfl⟩
theorem enters4 : Enters Try.prog 4 := ⟨_, Try.func4, by kernel_rfl, rfl⟩
theorem enters5 : Enters Try.prog 5 := ⟨_, Try.func5, by kernel_rfl, rfl⟩
theorem enters6 : Enters Try.prog 6 := ⟨_, Try.func6, by kernel_rfl, rfl⟩
theorem enters7 : Enters Try.prog 7 := ⟨_, Try.func7, by kernel_rfl, rfl⟩
theorem enters8 : Enters Try.prog 8 := ⟨_, Try.func8, by kernel_rfl, rfl⟩
theorem enters9 : Enters Try.prog 9 := ⟨_, Try.func9, by kernel_rfl, rfl⟩
theorem enters10 : Enters Try.prog 10 := ⟨_, Try.func10, by kernel_rfl, rfl⟩
theorem enters11 : Enters Try.prog 11 := ⟨_, Try.func11, by kernel_rfl, rfl⟩
theorem enters12 : Enters Try.prog 12 := ⟨_, Try.func12, by kernel_rfl, rfl⟩
theorem enters13 : Enters Try.prog 13 := ⟨_, Try.func13, by kernel_rfl, rfl⟩
theorem enters14 : Enters Try.prog 14 := ⟨_, Try.func14, by kernel_rfl, rfl⟩
theorem enters15 : Enters Try.prog 15 := ⟨_, Try.func15, by kernel_rfl, rfl⟩
theorem enters16 : Enters Try.prog 16 := ⟨_, Try.func16, by kernel_rfl, rfl⟩
theorem enters17 : Enters Try.prog 17 := ⟨_, Try.func17, by kernel_rfl, rfl⟩
theorem enters18 : Enters Try.prog 18 := ⟨_, Try.func18, by kernel_rfl, rfl⟩
theorem enters19 : Enters Try.prog 19 := ⟨_, Try.func19, by kernel_rfl, rfl⟩
theorem enters20 : Enters Try.prog 20 := ⟨_, Try.func20, by kernel_rfl, rfl⟩
theorem enters21 : Enters Try.prog 21 := ⟨_, Try.func21, by kernel_rfl, rfl⟩
theorem enters22 : Enters Try.prog 22 := ⟨_, Try.func22, by kernel_rfl, rfl⟩
theorem enters23 : Enters Try.prog 23 := ⟨_, Try.func23, by kernel_rfl, rfl⟩
theorem enters24 : Enters Try.prog 24 := ⟨_, Try.func24, by kernel_rfl, rfl⟩
theorem enters25 : Enters Try.prog 25 := ⟨_, Try.func25, by kernel_rfl, rfl⟩
theorem enters26 : Enters Try.prog 26 := ⟨_, Try.func26, by kernel_rfl, rfl⟩
theorem enters27 : Enters Try.prog 27 := ⟨_, Try.func27, by kernel_rfl, rfl⟩
theorem enters28 : Enters Try.prog 28 := ⟨_, Try.func28, by kernel_rfl, rfl⟩
theorem enters29 : Enters Try.prog 29 := ⟨_, Try.func29, by kernel_rfl, rfl⟩
theorem enters30 : Enters Try.prog 30 := ⟨_, Try.func30, by kernel_rfl, rfl⟩
theorem enters31 : Enters Try.prog 31 := ⟨_, Try.func31, by kernel_rfl, rfl⟩
theorem enters32 : Enters Try.prog 32 := ⟨_, Try.func32, by kernel_rfl, rfl⟩
end Go.Proofs.Ytijnlfhaepcldaa
