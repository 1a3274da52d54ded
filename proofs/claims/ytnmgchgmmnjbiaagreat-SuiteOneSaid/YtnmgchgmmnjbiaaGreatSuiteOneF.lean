/- Closed facts of the row, first part. -/
import Derived.Test.YtnmgchgmmnjbiaaGreatRows
import Derived.JoinedOf
import Derived.KernelRfl
set_option maxRecDepth 100000
namespace Go.Proofs.YtnmgchgmmnjbiaaGreat.suiteOneDone
open Go
theorem j0 : (Rows.suiteOneRow.wf (OpenSpec.ofChange Rows.suiteOneSpec)) = true := by kernel_rfl
theorem j3 : (Tryz.f6.params.all (Tryz.prog.readableRec ·)) = true := by kernel_rfl
theorem j4 : (namedTie Tryz.prog Rows.suiteOneRow.named Rows.suiteOneSpec.vars) = true := by kernel_rfl
theorem j5 : ((Rows.suiteOneRow.stops == [])) = true := by kernel_rfl
theorem j7 : ((Rows.suiteOneRow.knobs == [])) = true := by kernel_rfl
theorem j9 : ((Rows.suiteOneRow.inPlace == Tryz.prog.inPlace 6)) = true := by kernel_rfl
theorem j10 : ((Rows.suiteOneRow.unfollowed == Tryz.prog.unfollowed 6)) = true := by kernel_rfl
theorem j11 : ((Rows.suiteOneRow.recurses == Tryz.prog.recurses 6)) = true := by kernel_rfl
theorem j12 : ((Rows.suiteOneRow.named == Tryz.prog.varsNamed 6)) = true := by kernel_rfl
theorem j13 : ((Rows.suiteOneRow.maps == (Tryz.f6.params.toList ++ Rows.suiteOneSpec.plain.varTypes Tryz.prog).any (Tryz.prog.mapsRec ·))) = true := by kernel_rfl
theorem j14 : ((Rows.suiteOneRow.ifaces == (Tryz.f6.params.toList ++ Rows.suiteOneSpec.plain.varTypes Tryz.prog).any (Tryz.prog.ifacesRec ·))) = true := by kernel_rfl
theorem j15 : ((Rows.suiteOneRow.mapsOut == Tryz.prog.mapsAmong Tryz.f6.resultTypes.toList)) = true := by kernel_rfl
theorem j16 : ((Rows.suiteOneRow.loops == (Tryz.f6.params.toList ++ Rows.suiteOneSpec.plain.varTypes Tryz.prog).any (Tryz.prog.loopsFrom ·))) = true := by kernel_rfl
theorem j17 : ((Rows.suiteOneRow.wideKeys == (Tryz.f6.params.toList ++ Rows.suiteOneSpec.plain.varTypes Tryz.prog ++ Tryz.f6.resultTypes.toList).any (Tryz.prog.wideKeysFrom ·))) = true := by kernel_rfl
theorem j18 : (Rows.suiteOneSpec.vars.all (Tryz.prog.varReadable ·)) = true := by kernel_rfl
theorem j19 : (Tryz.f6.resultTypes.all (fun t => Tryz.prog.readableRec t && decide (t < Tryz.prog.types.size))) = true := by kernel_rfl
theorem j20 : ((Rows.suiteOneRow.ifacesOut == Tryz.f6.resultTypes.toList.any (Tryz.prog.ifacesRec ·))) = true := by kernel_rfl
theorem j21 : ((Rows.suiteOneRow.loopsOut == Tryz.f6.resultTypes.toList.any (Tryz.prog.loopsFrom ·))) = true := by kernel_rfl
end Go.Proofs.YtnmgchgmmnjbiaaGreat.suiteOneDone
