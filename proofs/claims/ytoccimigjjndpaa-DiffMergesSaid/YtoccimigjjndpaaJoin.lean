/-
  strings.Join: the shelf's contract, laid at this seat.
-/
import Derived.Test.YtoccimigjjndpaaFacts
import Derived.Test.YtoccimigjjndpaaNum
import Derived.Shelf.Strings.OnBuilder
set_option linter.unusedVariables false
namespace Go.Proofs.Ytoccimigjjndpaa
open Go Go.Shelf Go.RowKit
def renJ : Ren where
  f := fun x => match x with
    | 156 => 79
    | 165 => 89
    | 166 => 90
    | 169 => 91
    | 240 => 92
    | 241 => 93
    | 276 => 94
    | 277 => 95
    | n => n
  t := fun x => match x with
    | 3 => 3
    | 4 => 4
    | 9 => 9
    | 20 => 20
    | 31 => 52
    | 37 => 93
    | 70 => 122
    | 72 => 124
    | 75 => 127
    | 76 => 128
    | 127 => 131
    | 164 => 132
    | 5 => 5
    | 80 => 130
    | n => n
  g := fun x => x
theorem laysJ : Lays.n156 Try.prog renJ where
  mixed := rfl
  f156 := (Try.func79).trans (congrArg some rfl)
  f165 := (Try.func89).trans (congrArg some rfl)
  f166 := (Try.func90).trans (congrArg some rfl)
  f169 := (Try.func91).trans (congrArg some rfl)
  f240 := (Try.func92).trans (congrArg some rfl)
  f241 := (Try.func93).trans (congrArg some rfl)
  f276 := (Try.func94).trans (congrArg some rfl)
  f277 := (Try.func95).trans (congrArg some rfl)
  t0 := Try.underlying0
  a0 := Try.isAgg0
  z0 := Try.sizeOf0
  v0 := Try.zeroValue0
  t3 := Try.underlying3
  a3 := Try.isAgg3
  z3 := Try.sizeOf3
  v3 := Try.zeroValue3
  t4 := Try.underlying4
  a4 := Try.isAgg4
  z4 := Try.sizeOf4
  v4 := Try.zeroValue4
  t9 := Try.underlying9
  a9 := Try.isAgg9
  z9 := Try.sizeOf9
  v9 := Try.zeroValue9
  t20 := Try.underlying20
  a20 := Try.isAgg20
  z20 := Try.sizeOf20
  v20 := Try.zeroValue20
  t31 := Try.underlying52
  a31 := Try.isAgg52
  z31 := Try.sizeOf52
  v31 := Try.zeroValue52
  t37 := Try.underlying93
  a37 := Try.isAgg93
  z37 := Try.sizeOf93
  v37 := Try.zeroValue93
  t70 := Try.underlying122
  a70 := Try.isAgg122
  z70 := Try.sizeOf122
  v70 := Try.zeroValue122
  t72 := Try.underlying124
  a72 := Try.isAgg124
  z72 := Try.sizeOf124
  v72 := Try.zeroValue124
  t75 := Try.underlying127
  a75 := Try.isAgg127
  z75 := Try.sizeOf127
  v75 := Try.zeroValue127
  t76 := Try.underlying128
  a76 := Try.isAgg128
  z76 := Try.sizeOf128
  v76 := Try.zeroValue128
  t127 := Try.underlying131
  a127 := Try.isAgg131
  z127 := Try.sizeOf131
  v127 := Try.zeroValue131
  t164 := Try.underlying132
  a164 := Try.isAgg132
  z164 := Try.sizeOf132
  v164 := Try.zeroValue132
theorem extraJ : Builder.Extra Try.prog renJ where
  sizeBuilder := by kernel_rfl
  liesBuilder := by kernel_rfl
  t5 := Try.underlying5
  a5 := Try.isAgg5
  z5 := Try.sizeOf5
  v5 := Try.zeroValue5
  infoByte := by kernel_rfl
  cellsByte := by kernel_rfl
  sizeByte := by kernel_rfl
  neB5 := by decide
theorem sjoin_c {w : World} {bk o c : Nat} {xs : List ByteArray} {sep : ByteArray} (hcells : ∀ (j : Nat) x, xs[j]? = some x → w.cell? ⟨bk, o + j, none⟩ = some (.string x)) (hbk : bk < w.heap.size) (hN : xs.length ≤ 140737488355328) (hcap : xs.length ≤ c)
    (hlen : (Lib.join (xs.map (·.data.toList)) sep.data.toList).length ≤ 140737488355328) :
    Calls Try.prog 79 #[.slice (some ⟨bk, o, none⟩) xs.length c, .string sep] w (Ret w fun r _ => r = .string ⟨(Lib.join (xs.map (·.data.toList)) sep.data.toList).toArray⟩) :=
  (Any.strings_Join laysJ extraJ bk o c xs sep w hcells hbk hN hcap hlen).mono fun e w' ⟨he, hb⟩ => ⟨_, he, hb, rfl⟩
theorem sjoin_none {w : World} {a : Option Addr} {c : Nat} {sep : ByteArray} : Calls Try.prog 79 #[.slice a 0 c, .string sep] w (Ret w fun r _ => r = .string ⟨#[]⟩) :=
  (Any.strings_Join_none laysJ extraJ a c sep w).mono fun e w' ⟨he, hw⟩ => ⟨_, he, hw ▸ Ext.refl _, rfl⟩
end Go.Proofs.Ytoccimigjjndpaa
