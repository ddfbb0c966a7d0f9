/-
  Walks.
-/
import Derived.Test.YthbfhljpfkicpaaDoorV4
set_option linter.unusedVariables false
set_option linter.unusedSimpArgs false
set_option maxRecDepth 100000
namespace Go.Proofs.YthbfhljpfkicpaaDoor
open Go Go.RowKit
theorem samev_self {x e y f : Int} : samev x e y f x e y f = true := by unfold samev; simp
theorem nl0 (w : World) : Nl w (.slice none 0 0) (dig (0 : Int).natAbs) := by rw [dig0]; exact Nl.nil _
theorem rivsameT_c {w : World} {vx vy : Value} {x y e f : Int} {bx by_ : Bool} (hbx : bx = decide (x < 0)) (hx : Nl w vx (dig x.natAbs)) (hby : by_ = decide (y < 0)) (hy : Nl w vy (dig y.natAbs)) (hvx : dval x e = true) (hvy : dval y f = true) {vz vu : Value} {z u g h : Int} {bz bu : Bool} (hbz : bz = decide (z < 0)) (hz : Nl w vz (dig z.natAbs)) (hbu : bu = decide (u < 0)) (hu : Nl w vu (dig u.natAbs)) (hvz : dval z g = true) (hvu : dval u h = true) (hs : samev x e y f z g u h = true) : Calls Tryd.prog 41 #[.agg #[.bool bx, vx, .int .i64 e, .bool by_, vy, .int .i64 f], .agg #[.bool bz, vz, .int .i64 g, .bool bu, vu, .int .i64 h]] w (Ret w fun r _ => r = .bool true) :=
  (rivsame_c hbx hx hby hy hvx hvy hbz hz hbu hu hvz hvu).mono fun _ w' ⟨r, he, hx', hr⟩ => ⟨r, he, hx', by rw [hr, hs]⟩
theorem rivsameT_z {w : World} : Calls Tryd.prog 41 #[.agg #[.bool (decide ((0) < 0)), .slice none 0 0, .int .i64 (0), .bool (decide ((0) < 0)), .slice none 0 0, .int .i64 (0)], .agg #[.bool (decide ((0) < 0)), .slice none 0 0, .int .i64 (0), .bool (decide ((0) < 0)), .slice none 0 0, .int .i64 (0)]] w (Ret w fun r _ => r = .bool true) :=
  rivsameT_c rfl (nl0 w) rfl (nl0 w) dval_zero dval_zero rfl (nl0 w) rfl (nl0 w) dval_zero dval_zero samev_self

end Go.Proofs.YthbfhljpfkicpaaDoor
