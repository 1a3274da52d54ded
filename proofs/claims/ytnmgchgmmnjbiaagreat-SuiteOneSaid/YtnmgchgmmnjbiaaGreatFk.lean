/- Closed facts on the program. -/
import Derived.Test.YtnmgchgmmnjbiaaGreatRows
import Derived.JoinedOf
import Derived.KernelRfl
set_option maxRecDepth 100000
namespace Go.Proofs.Fw
open Go Go.Proofs.YtnmgchgmmnjbiaaGreat
theorem am {a b : Bool} (h : a = true) (k : b = true) : (a && b) = true := by rw [h, k]; rfl
theorem pj1 : (laidOutB Tryz.prog) = true := by kernel_rfl
theorem pj2 : (mapsRowed Tryz.prog) = true := by kernel_rfl
theorem pj6 : ((Tryz.prog.stops == [])) = true := by kernel_rfl
theorem pj8 : ((Tryz.prog.stopKnobs == [])) = true := by kernel_rfl
theorem pj24 : (Tryz.prog.stopsHeard) = true := by kernel_rfl
theorem pj25 : (Tryz.prog.mayEnter) = true := by kernel_rfl

end Go.Proofs.Fw
