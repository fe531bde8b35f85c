/-
Plain geometry on the grid: what is moved. No program in sight.
-/
import Derived.Test.YtodeiejmllbkiaaGeo2
namespace Go.Proofs.Ytodeiejmllbkiaa.Geo
/-! Moved by one across. -/
def shf (p : P) : P := (p.1 + 1, p.2)
theorem cross_shf (a b c : P) : cross (shf a) (shf b) (shf c) = cross a b c := by unfold cross shf; grind
theorem dot_shf (a b c : P) : dot (shf a) (shf b) (shf c) = dot a b c := by unfold dot shf; grind
theorem far0_shf (a b p : P) : far0 (shf a) (shf b) (shf p) = far0 a b p := by
  unfold far0; simp only [dot_shf, cross_shf]
end Go.Proofs.Ytodeiejmllbkiaa.Geo
