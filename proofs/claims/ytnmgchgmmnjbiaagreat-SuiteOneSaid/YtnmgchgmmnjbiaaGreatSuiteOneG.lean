/- Closed facts of the row, second part. -/
import Derived.Test.YtnmgchgmmnjbiaaGreatRows
import Derived.JoinedOf
import Derived.KernelRfl
set_option maxRecDepth 100000
namespace Go.Proofs.YtnmgchgmmnjbiaaGreat.suiteOneDone
open Go
theorem j22 : ((Rows.suiteOneRow.plainKeys == Tryz.prog.plainKeys)) = true := by kernel_rfl
theorem j23 : (Rows.suiteOneRow.shortTexts.isNone) = true := by kernel_rfl
theorem j26 : ((Rows.suiteOneRow.lifted == Tryz.prog.liftsFinal)) = true := by kernel_rfl
theorem j27 : ((Tryz.prog.make == some Rows.suiteOneRow.make)) = true := by kernel_rfl
theorem j28 : ((Rows.suiteOneRow.kinds == (if Rows.suiteOneRow.domain.isEmpty then [] else Tryz.f6.params.toList.map fun t => match Tryz.prog.underlying t with | some (.int k) => some k | _ => none))) = true := by kernel_rfl
theorem j29 : ((Rows.suiteOneRow.pinned == Rows.suiteOneRow.pinnedBy)) = true := by kernel_rfl
theorem j30 : ((Rows.suiteOneRow.veiled == (Tryz.f6.params.toList ++ Rows.suiteOneSpec.plain.varTypes Tryz.prog ++ Tryz.f6.resultTypes.toList).any (Tryz.prog.veiledRec ·))) = true := by kernel_rfl
theorem j31 : (Rows.suiteOneRow.veiledFits Tryz.prog Tryz.f6.params.toList (Tryz.f6.params.toList ++ Rows.suiteOneSpec.plain.varTypes Tryz.prog ++ Tryz.f6.resultTypes.toList)) = true := by kernel_rfl
end Go.Proofs.YtnmgchgmmnjbiaaGreat.suiteOneDone
