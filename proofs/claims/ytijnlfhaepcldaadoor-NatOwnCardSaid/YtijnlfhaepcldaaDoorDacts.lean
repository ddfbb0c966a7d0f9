/-
  Closed facts of this seat: each function has a body; slices of 32-bit digits.
-/
import Derived.Test.YtijnlfhaepcldaaDoorNum
import Derived.Test.YtijnlfhaepcldaaDoorChecked
import Derived.KernelRfl
namespace Go.Proofs.YtijnlfhaepcldaaDoor
open Go
theorem T22 : ElT Tryd.prog 22 44 (.int .u32 0) 4 := ElT.mk' Tryd.underlying22 (by kernel_rfl)
theorem T43 : ElT Tryd.prog 43 22 (.slice none 0 0) 24 := ElT.mk' Tryd.underlying43 (by kernel_rfl)
theorem mixed : Tryd.prog.follows .mixedOrders = true := by kernel_rfl
theorem enters3 : Enters Tryd.prog 3 := ⟨_, Tryd.func3, by kernel_rfl, rfl⟩
theorem enters4 : Enters Tryd.prog 4 := ⟨_, Tryd.func4, by kernel_rfl, rfl⟩
theorem enters5 : Enters Tryd.prog 5 := ⟨_, Tryd.func5, by kernel_rfl, rfl⟩
theorem enters6 : Enters Tryd.prog 6 := ⟨_, Tryd.func6, by kernel_rfl, rfl⟩
theorem enters7 : Enters Tryd.prog 7 := ⟨_, Tryd.func7, by kernel_rfl, rfl⟩
theorem enters8 : Enters Tryd.prog 8 := ⟨_, Tryd.func8, by kernel_rfl, rfl⟩
theorem enters9 : Enters Tryd.prog 9 := ⟨_, Tryd.func9, by kernel_rfl, rfl⟩
theorem enters10 : Enters Tryd.prog 10 := ⟨_, Tryd.func10, by kernel_rfl, rfl⟩
theorem enters11 : Enters Tryd.prog 11 := ⟨_, Tryd.func11, by kernel_rfl, rfl⟩
theorem enters12 : Enters Tryd.prog 12 := ⟨_, Tryd.func12, by kernel_rfl, rfl⟩
theorem enters13 : Enters Tryd.prog 13 := ⟨_, Tryd.func13, by kernel_rfl, rfl⟩
theorem enters14 : Enters Tryd.prog 14 := ⟨_, Tryd.func14, by kernel_rfl, rfl⟩
theorem enters15 : Enters Tryd.prog 15 := ⟨_, Tryd.func15, by kernel_rfl, rfl⟩
theorem enters16 : Enters Tryd.prog 16 := ⟨_, Tryd.func16, by kernel_rfl, rfl⟩
theorem enters17 : Enters Tryd.prog 17 := ⟨_, Tryd.func17, by kernel_rfl, rfl⟩
theorem enters18 : Enters Tryd.prog 18 := ⟨_, Tryd.func18, by kernel_rfl, rfl⟩
theorem enters19 : Enters Tryd.prog 19 := ⟨_, Tryd.func19, by kernel_rfl, rfl⟩
theorem enters20 : Enters Tryd.prog 20 := ⟨_, Tryd.func20, by kernel_rfl, rfl⟩
theorem enters21 : Enters Tryd.prog 21 := ⟨_, Tryd.func21, by kernel_rfl, rfl⟩
theorem enters22 : Enters Tryd.prog 22 := ⟨_, Tryd.func22, by kernel_rfl, rfl⟩
theorem enters23 : Enters Tryd.prog 23 := ⟨_, Tryd.func23, by kernel_rfl, rfl⟩
theorem enters24 : Enters Tryd.prog 24 := ⟨_, Tryd.func24, by kernel_rfl, rfl⟩
theorem enters25 : Enters Tryd.prog 25 := ⟨_, Tryd.func25, by kernel_rfl, rfl⟩
theorem enters26 : Enters Tryd.prog 26 := ⟨_, Tryd.func26, by kernel_rfl, rfl⟩
theorem enters27 : Enters Tryd.prog 27 := ⟨_, Tryd.func27, by kernel_rfl, rfl⟩
theorem enters28 : Enters Tryd.prog 28 := ⟨_, Tryd.func28, by kernel_rfl, rfl⟩
theorem enters29 : Enters Tryd.prog 29 := ⟨_, Tryd.func29, by kernel_rfl, rfl⟩
theorem enters30 : Enters Tryd.prog 30 := ⟨_, Tryd.func30, by kernel_rfl, rfl⟩
theorem enters31 : Enters Tryd.prog 31 := ⟨_, Tryd.func31, by kernel_rfl, rfl⟩
theorem enters32 : Enters Tryd.prog 32 := ⟨_, Tryd.func32, by kernel_rfl, rfl⟩
theorem enters33 : Enters Tryd.prog 33 := ⟨_, Tryd.func33, by kernel_rfl, rfl⟩
theorem enters34 : Enters Tryd.prog 34 := ⟨_, Tryd.func34, by kernel_rfl, rfl⟩
theorem enters35 : Enters Tryd.prog 35 := ⟨_, Tryd.func35, by kernel_rfl, rfl⟩
theorem enters36 : Enters Tryd.prog 36 := ⟨_, Tryd.func36, by kernel_rfl, rfl⟩
theorem enters37 : Enters Tryd.prog 37 := ⟨_, Tryd.func37, by kernel_rfl, rfl⟩
theorem enters38 : Enters Tryd.prog 38 := ⟨_, Tryd.func38, by kernel_rfl, rfl⟩
theorem enters39 : Enters Tryd.prog 39 := ⟨_, Tryd.func39, by kernel_rfl, rfl⟩
theorem enters40 : Enters Tryd.prog 40 := ⟨_, Tryd.func40, by kernel_rfl, rfl⟩
theorem enters41 : Enters Tryd.prog 41 := ⟨_, Tryd.func41, by kernel_rfl, rfl⟩
theorem enters42 : Enters Tryd.prog 42 := ⟨_, Tryd.func42, by kernel_rfl, rfl⟩
theorem enters43 : Enters Tryd.prog 43 := ⟨_, Tryd.func43, by kernel_rfl, rfl⟩
theorem enters44 : Enters Tryd.prog 44 := ⟨_, Tryd.func44, by kernel_rfl, rfl⟩
theorem enters45 : Enters Tryd.prog 45 := ⟨_, Tryd.func45, by kernel_rfl, rfl⟩
theorem enters46 : Enters Tryd.prog 46 := ⟨_, Tryd.func46, by kernel_rfl, rfl⟩
end Go.Proofs.YtijnlfhaepcldaaDoor
