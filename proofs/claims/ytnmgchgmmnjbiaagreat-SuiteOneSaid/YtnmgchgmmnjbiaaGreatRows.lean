/-
  No cell of these rows narrows 'for every input' (looked for: loops, veiled, ifaces, maps, wideKeys, modest, calm, conditions, laid).
  DERIVED. THE GIVEN ROWS OF THIS SEAT. 17 by the template 'for every input the law returns true; each argument reads behind the call as it read before'; 0 by the template 'total and deterministic' (their statements: YtnmgchgmmnjbiaaGreatTotals.lean).
  GIVEN WITH THE SEED: the statements are not yours to turn. If you find one false, say at which input.
  Laid BY PROGRAM, IN A SANDBOX (cutbox-rows.mjs): the forced cells as the released guide's own fill.sh prints them over the translation f2852d825d42b313… (all of the seat's roots in one cut). By AI agents, Wed Nov 11 2026. No macro, syntax, notation, axiom, sorry.
-/
import Derived.Test.YtnmgchgmmnjbiaaGreatChecked
import GoSem.Claim
import GoSem.ClaimJoined
import GoSem.ClaimMapViews
import Derived.JoinedTies
import Derived.KernelRfl
namespace Go.Proofs.YtnmgchgmmnjbiaaGreat
/- THE CELL 'sum', in the pinned program and in every row, IS THE sha256 OF THE DUMP (.gsa) THAT YtnmgchgmmnjbiaaGreatProg.lean LOADS. Nothing in Lean hashes anything: it is a label: what it is worth is what the hold of that sum in a sandbox is worth. -/
noncomputable def Tryz.pinned : Pinned := { name := "ytnmgchgmmnjbiaagreat", sum := "f2852d825d42b313e75c41b37147001306c2594c9b8af96edc924668792f69de", checked := Tryz.checked }
namespace Rows
def none {H : Type} : Left H := { results := [], args := [] }

/-- 'roadbooklaw26.SuiteTells': WHATEVER THE INPUT: true; the input reads as it did. -/
def suiteTellsSpec : ChangeSpec := { name := "suiteTells", fn := fun _ => fun
  | [d1, d2, d3] => { results := [.lit (.bool true)], args := [d1, d2, d3] }
  | _ => none }
def suiteTellsRow : OpenClaim := { program := "ytnmgchgmmnjbiaagreat", sum := "f2852d825d42b313e75c41b37147001306c2594c9b8af96edc924668792f69de", func := "roadbook/roadbooklaw26.SuiteTells", spec := "suiteTells", unfollowed := true, recurses := true, apart := false }
def SuiteTellsSaid : Prop := suiteTellsRow.holds Tryz.pinned (OpenSpec.ofChange suiteTellsSpec)

/-- ITS FALSE NEIGHBOUR: 'it returns false'. Refute it at one input. -/
def suiteTellsWrong : ChangeSpec := { name := "suiteTells", fn := fun _ => fun
  | [d1, d2, d3] => { results := [.lit (.bool false)], args := [d1, d2, d3] }
  | _ => none }
def SuiteTellsWrongFalsely : Prop := suiteTellsRow.holds Tryz.pinned (OpenSpec.ofChange suiteTellsWrong)

/-- 'roadbooklaw26.SuiteBack': WHATEVER THE INPUT: true; the input reads as it did. -/
def suiteBackSpec : ChangeSpec := { name := "suiteBack", fn := fun _ => fun
  | [d1, d2] => { results := [.lit (.bool true)], args := [d1, d2] }
  | _ => none }
def suiteBackRow : OpenClaim := { program := "ytnmgchgmmnjbiaagreat", sum := "f2852d825d42b313e75c41b37147001306c2594c9b8af96edc924668792f69de", func := "roadbook/roadbooklaw26.SuiteBack", spec := "suiteBack", unfollowed := true, recurses := true, apart := false }
def SuiteBackSaid : Prop := suiteBackRow.holds Tryz.pinned (OpenSpec.ofChange suiteBackSpec)

/-- ITS FALSE NEIGHBOUR: 'it returns false'. Refute it at one input. -/
def suiteBackWrong : ChangeSpec := { name := "suiteBack", fn := fun _ => fun
  | [d1, d2] => { results := [.lit (.bool false)], args := [d1, d2] }
  | _ => none }
def SuiteBackWrongFalsely : Prop := suiteBackRow.holds Tryz.pinned (OpenSpec.ofChange suiteBackWrong)

/-- 'roadbooklaw26.SuiteAgain': WHATEVER THE INPUT: true; the input reads as it did. -/
def suiteAgainSpec : ChangeSpec := { name := "suiteAgain", fn := fun _ => fun
  | [d1, d2] => { results := [.lit (.bool true)], args := [d1, d2] }
  | _ => none }
def suiteAgainRow : OpenClaim := { program := "ytnmgchgmmnjbiaagreat", sum := "f2852d825d42b313e75c41b37147001306c2594c9b8af96edc924668792f69de", func := "roadbook/roadbooklaw26.SuiteAgain", spec := "suiteAgain", unfollowed := true, recurses := true, apart := false }
def SuiteAgainSaid : Prop := suiteAgainRow.holds Tryz.pinned (OpenSpec.ofChange suiteAgainSpec)

/-- ITS FALSE NEIGHBOUR: 'it returns false'. Refute it at one input. -/
def suiteAgainWrong : ChangeSpec := { name := "suiteAgain", fn := fun _ => fun
  | [d1, d2] => { results := [.lit (.bool false)], args := [d1, d2] }
  | _ => none }
def SuiteAgainWrongFalsely : Prop := suiteAgainRow.holds Tryz.pinned (OpenSpec.ofChange suiteAgainWrong)

/-- 'roadbooklaw26.SuiteOne': WHATEVER THE INPUT: true; the input reads as it did. -/
def suiteOneSpec : ChangeSpec := { name := "suiteOne", fn := fun _ => fun
  | [d] => { results := [.lit (.bool true)], args := [d] }
  | _ => none }
def suiteOneRow : OpenClaim := { program := "ytnmgchgmmnjbiaagreat", sum := "f2852d825d42b313e75c41b37147001306c2594c9b8af96edc924668792f69de", func := "roadbook/roadbooklaw26.SuiteOne", spec := "suiteOne", unfollowed := true, recurses := true, apart := false }
def SuiteOneSaid : Prop := suiteOneRow.holds Tryz.pinned (OpenSpec.ofChange suiteOneSpec)

/-- ITS FALSE NEIGHBOUR: 'it returns false'. Refute it at one input. -/
def suiteOneWrong : ChangeSpec := { name := "suiteOne", fn := fun _ => fun
  | [d] => { results := [.lit (.bool false)], args := [d] }
  | _ => none }
def SuiteOneWrongFalsely : Prop := suiteOneRow.holds Tryz.pinned (OpenSpec.ofChange suiteOneWrong)

/-- 'roadbooklaw28.JoinTells': WHATEVER THE INPUT: true; the input reads as it did. -/
def joinTellsSpec : ChangeSpec := { name := "joinTells", fn := fun _ => fun
  | [d1, d2] => { results := [.lit (.bool true)], args := [d1, d2] }
  | _ => none }
def joinTellsRow : OpenClaim := { program := "ytnmgchgmmnjbiaagreat", sum := "f2852d825d42b313e75c41b37147001306c2594c9b8af96edc924668792f69de", func := "roadbook/roadbooklaw28.JoinTells", spec := "joinTells", unfollowed := true, recurses := true, apart := false }
def JoinTellsSaid : Prop := joinTellsRow.holds Tryz.pinned (OpenSpec.ofChange joinTellsSpec)

/-- ITS FALSE NEIGHBOUR: 'it returns false'. Refute it at one input. -/
def joinTellsWrong : ChangeSpec := { name := "joinTells", fn := fun _ => fun
  | [d1, d2] => { results := [.lit (.bool false)], args := [d1, d2] }
  | _ => none }
def JoinTellsWrongFalsely : Prop := joinTellsRow.holds Tryz.pinned (OpenSpec.ofChange joinTellsWrong)

/-- 'roadbooklaw28.JoinPacks': WHATEVER THE INPUT: true; the input reads as it did. -/
def joinPacksSpec : ChangeSpec := { name := "joinPacks", fn := fun _ => fun
  | [d1, d2, d3] => { results := [.lit (.bool true)], args := [d1, d2, d3] }
  | _ => none }
def joinPacksRow : OpenClaim := { program := "ytnmgchgmmnjbiaagreat", sum := "f2852d825d42b313e75c41b37147001306c2594c9b8af96edc924668792f69de", func := "roadbook/roadbooklaw28.JoinPacks", spec := "joinPacks", unfollowed := true, recurses := true, apart := false }
def JoinPacksSaid : Prop := joinPacksRow.holds Tryz.pinned (OpenSpec.ofChange joinPacksSpec)

/-- ITS FALSE NEIGHBOUR: 'it returns false'. Refute it at one input. -/
def joinPacksWrong : ChangeSpec := { name := "joinPacks", fn := fun _ => fun
  | [d1, d2, d3] => { results := [.lit (.bool false)], args := [d1, d2, d3] }
  | _ => none }
def JoinPacksWrongFalsely : Prop := joinPacksRow.holds Tryz.pinned (OpenSpec.ofChange joinPacksWrong)

/-- 'roadbooklaw28.JoinParts': WHATEVER THE INPUT: true; the input reads as it did. -/
def joinPartsSpec : ChangeSpec := { name := "joinParts", fn := fun _ => fun
  | [d1, d2, d3] => { results := [.lit (.bool true)], args := [d1, d2, d3] }
  | _ => none }
def joinPartsRow : OpenClaim := { program := "ytnmgchgmmnjbiaagreat", sum := "f2852d825d42b313e75c41b37147001306c2594c9b8af96edc924668792f69de", func := "roadbook/roadbooklaw28.JoinParts", spec := "joinParts", unfollowed := true, recurses := true, apart := false }
def JoinPartsSaid : Prop := joinPartsRow.holds Tryz.pinned (OpenSpec.ofChange joinPartsSpec)

/-- ITS FALSE NEIGHBOUR: 'it returns false'. Refute it at one input. -/
def joinPartsWrong : ChangeSpec := { name := "joinParts", fn := fun _ => fun
  | [d1, d2, d3] => { results := [.lit (.bool false)], args := [d1, d2, d3] }
  | _ => none }
def JoinPartsWrongFalsely : Prop := joinPartsRow.holds Tryz.pinned (OpenSpec.ofChange joinPartsWrong)

/-- 'roadbooklaw27.PackTells': WHATEVER THE INPUT: true; the input reads as it did. -/
def packTellsSpec : ChangeSpec := { name := "packTells", fn := fun _ => fun
  | [d1, d2, d3] => { results := [.lit (.bool true)], args := [d1, d2, d3] }
  | _ => none }
def packTellsRow : OpenClaim := { program := "ytnmgchgmmnjbiaagreat", sum := "f2852d825d42b313e75c41b37147001306c2594c9b8af96edc924668792f69de", func := "roadbook/roadbooklaw27.PackTells", spec := "packTells", unfollowed := true, recurses := true, apart := false }
def PackTellsSaid : Prop := packTellsRow.holds Tryz.pinned (OpenSpec.ofChange packTellsSpec)

/-- ITS FALSE NEIGHBOUR: 'it returns false'. Refute it at one input. -/
def packTellsWrong : ChangeSpec := { name := "packTells", fn := fun _ => fun
  | [d1, d2, d3] => { results := [.lit (.bool false)], args := [d1, d2, d3] }
  | _ => none }
def PackTellsWrongFalsely : Prop := packTellsRow.holds Tryz.pinned (OpenSpec.ofChange packTellsWrong)

/-- 'roadbooklaw27.PackReads': WHATEVER THE INPUT: true; the input reads as it did. -/
def packReadsSpec : ChangeSpec := { name := "packReads", fn := fun _ => fun
  | [d1, d2, d3] => { results := [.lit (.bool true)], args := [d1, d2, d3] }
  | _ => none }
def packReadsRow : OpenClaim := { program := "ytnmgchgmmnjbiaagreat", sum := "f2852d825d42b313e75c41b37147001306c2594c9b8af96edc924668792f69de", func := "roadbook/roadbooklaw27.PackReads", spec := "packReads", unfollowed := true, recurses := true, apart := false }
def PackReadsSaid : Prop := packReadsRow.holds Tryz.pinned (OpenSpec.ofChange packReadsSpec)

/-- ITS FALSE NEIGHBOUR: 'it returns false'. Refute it at one input. -/
def packReadsWrong : ChangeSpec := { name := "packReads", fn := fun _ => fun
  | [d1, d2, d3] => { results := [.lit (.bool false)], args := [d1, d2, d3] }
  | _ => none }
def PackReadsWrongFalsely : Prop := packReadsRow.holds Tryz.pinned (OpenSpec.ofChange packReadsWrong)

/-- 'roadbooklaw27.PackGreedy': WHATEVER THE INPUT: true; the input reads as it did. -/
def packGreedySpec : ChangeSpec := { name := "packGreedy", fn := fun _ => fun
  | [d1, d2, d3] => { results := [.lit (.bool true)], args := [d1, d2, d3] }
  | _ => none }
def packGreedyRow : OpenClaim := { program := "ytnmgchgmmnjbiaagreat", sum := "f2852d825d42b313e75c41b37147001306c2594c9b8af96edc924668792f69de", func := "roadbook/roadbooklaw27.PackGreedy", spec := "packGreedy", unfollowed := true, recurses := true, apart := false }
def PackGreedySaid : Prop := packGreedyRow.holds Tryz.pinned (OpenSpec.ofChange packGreedySpec)

/-- ITS FALSE NEIGHBOUR: 'it returns false'. Refute it at one input. -/
def packGreedyWrong : ChangeSpec := { name := "packGreedy", fn := fun _ => fun
  | [d1, d2, d3] => { results := [.lit (.bool false)], args := [d1, d2, d3] }
  | _ => none }
def PackGreedyWrongFalsely : Prop := packGreedyRow.holds Tryz.pinned (OpenSpec.ofChange packGreedyWrong)

/-- 'roadbooklaw27.PackSmall': WHATEVER THE INPUT: true; the input reads as it did. -/
def packSmallSpec : ChangeSpec := { name := "packSmall", fn := fun _ => fun
  | [d] => { results := [.lit (.bool true)], args := [d] }
  | _ => none }
def packSmallRow : OpenClaim := { program := "ytnmgchgmmnjbiaagreat", sum := "f2852d825d42b313e75c41b37147001306c2594c9b8af96edc924668792f69de", func := "roadbook/roadbooklaw27.PackSmall", spec := "packSmall", unfollowed := true, recurses := true, apart := false }
def PackSmallSaid : Prop := packSmallRow.holds Tryz.pinned (OpenSpec.ofChange packSmallSpec)

/-- ITS FALSE NEIGHBOUR: 'it returns false'. Refute it at one input. -/
def packSmallWrong : ChangeSpec := { name := "packSmall", fn := fun _ => fun
  | [d] => { results := [.lit (.bool false)], args := [d] }
  | _ => none }
def PackSmallWrongFalsely : Prop := packSmallRow.holds Tryz.pinned (OpenSpec.ofChange packSmallWrong)

/-- 'roadbooklaw30.DeskKinds': WHATEVER THE INPUT: true; the input reads as it did. -/
def deskKindsSpec : ChangeSpec := { name := "deskKinds", fn := fun _ => fun
  | [d1, d2] => { results := [.lit (.bool true)], args := [d1, d2] }
  | _ => none }
def deskKindsRow : OpenClaim := { program := "ytnmgchgmmnjbiaagreat", sum := "f2852d825d42b313e75c41b37147001306c2594c9b8af96edc924668792f69de", func := "roadbook/roadbooklaw30.DeskKinds", spec := "deskKinds", inPlace := ["sync/atomic.CompareAndSwapUint32", "sync/atomic.LoadUint32", "sync/atomic.AddInt64", "(*internal/sync.Mutex).Lock", "internal/race.Disable", "sync/atomic.CompareAndSwapInt32", "internal/race.Enable", "internal/race.Acquire", "(*internal/sync.Mutex).lockSlow", "internal/sync.runtime_canSpin", "internal/sync.runtime_doSpin", "internal/sync.throw", "internal/sync.runtime_nanotime", "internal/sync.runtime_SemacquireMutex", "sync/atomic.AddInt32", "(*internal/sync.Mutex).Unlock", "internal/race.ReleaseMerge", "(*internal/sync.Mutex).unlockSlow", "internal/sync.fatal", "internal/sync.runtime_Semrelease", "sync/atomic.StoreUint32"], unfollowed := true, recurses := true, apart := false }
def DeskKindsSaid : Prop := deskKindsRow.holds Tryz.pinned (OpenSpec.ofChange deskKindsSpec)

/-- ITS FALSE NEIGHBOUR: 'it returns false'. Refute it at one input. -/
def deskKindsWrong : ChangeSpec := { name := "deskKinds", fn := fun _ => fun
  | [d1, d2] => { results := [.lit (.bool false)], args := [d1, d2] }
  | _ => none }
def DeskKindsWrongFalsely : Prop := deskKindsRow.holds Tryz.pinned (OpenSpec.ofChange deskKindsWrong)

/-- 'roadbooklaw30.DeskPlays': WHATEVER THE INPUT: true; the input reads as it did. -/
def deskPlaysSpec : ChangeSpec := { name := "deskPlays", fn := fun _ => fun
  | [d1, d2] => { results := [.lit (.bool true)], args := [d1, d2] }
  | _ => none }
def deskPlaysRow : OpenClaim := { program := "ytnmgchgmmnjbiaagreat", sum := "f2852d825d42b313e75c41b37147001306c2594c9b8af96edc924668792f69de", func := "roadbook/roadbooklaw30.DeskPlays", spec := "deskPlays", inPlace := ["sync/atomic.CompareAndSwapUint32", "sync/atomic.LoadUint32", "sync/atomic.AddInt64", "(*internal/sync.Mutex).Lock", "internal/race.Disable", "sync/atomic.CompareAndSwapInt32", "internal/race.Enable", "internal/race.Acquire", "(*internal/sync.Mutex).lockSlow", "internal/sync.runtime_canSpin", "internal/sync.runtime_doSpin", "internal/sync.throw", "internal/sync.runtime_nanotime", "internal/sync.runtime_SemacquireMutex", "sync/atomic.AddInt32", "(*internal/sync.Mutex).Unlock", "internal/race.ReleaseMerge", "(*internal/sync.Mutex).unlockSlow", "internal/sync.fatal", "internal/sync.runtime_Semrelease", "sync/atomic.StoreUint32", "sync/atomic.LoadInt64"], unfollowed := true, recurses := true, apart := false }
def DeskPlaysSaid : Prop := deskPlaysRow.holds Tryz.pinned (OpenSpec.ofChange deskPlaysSpec)

/-- ITS FALSE NEIGHBOUR: 'it returns false'. Refute it at one input. -/
def deskPlaysWrong : ChangeSpec := { name := "deskPlays", fn := fun _ => fun
  | [d1, d2] => { results := [.lit (.bool false)], args := [d1, d2] }
  | _ => none }
def DeskPlaysWrongFalsely : Prop := deskPlaysRow.holds Tryz.pinned (OpenSpec.ofChange deskPlaysWrong)

/-- 'roadbooklaw30.DeskApart': WHATEVER THE INPUT: true; the input reads as it did. -/
def deskApartSpec : ChangeSpec := { name := "deskApart", fn := fun _ => fun
  | [d] => { results := [.lit (.bool true)], args := [d] }
  | _ => none }
def deskApartRow : OpenClaim := { program := "ytnmgchgmmnjbiaagreat", sum := "f2852d825d42b313e75c41b37147001306c2594c9b8af96edc924668792f69de", func := "roadbook/roadbooklaw30.DeskApart", spec := "deskApart", inPlace := ["sync/atomic.CompareAndSwapUint32", "sync/atomic.LoadUint32", "sync/atomic.AddInt64", "(*internal/sync.Mutex).Lock", "internal/race.Disable", "sync/atomic.CompareAndSwapInt32", "internal/race.Enable", "internal/race.Acquire", "(*internal/sync.Mutex).lockSlow", "internal/sync.runtime_canSpin", "internal/sync.runtime_doSpin", "internal/sync.throw", "internal/sync.runtime_nanotime", "internal/sync.runtime_SemacquireMutex", "sync/atomic.AddInt32", "(*internal/sync.Mutex).Unlock", "internal/race.ReleaseMerge", "(*internal/sync.Mutex).unlockSlow", "internal/sync.fatal", "internal/sync.runtime_Semrelease", "sync/atomic.StoreUint32", "sync/atomic.LoadInt64"], unfollowed := true, recurses := true, apart := false }
def DeskApartSaid : Prop := deskApartRow.holds Tryz.pinned (OpenSpec.ofChange deskApartSpec)

/-- ITS FALSE NEIGHBOUR: 'it returns false'. Refute it at one input. -/
def deskApartWrong : ChangeSpec := { name := "deskApart", fn := fun _ => fun
  | [d] => { results := [.lit (.bool false)], args := [d] }
  | _ => none }
def DeskApartWrongFalsely : Prop := deskApartRow.holds Tryz.pinned (OpenSpec.ofChange deskApartWrong)

/-- 'roadbooktop.WholeAtOnce': WHATEVER THE INPUT: true; the input reads as it did. -/
def wholeAtOnceSpec : ChangeSpec := { name := "wholeAtOnce", fn := fun _ => fun
  | [d1, d2, d3] => { results := [.lit (.bool true)], args := [d1, d2, d3] }
  | _ => none }
def wholeAtOnceRow : OpenClaim := { program := "ytnmgchgmmnjbiaagreat", sum := "f2852d825d42b313e75c41b37147001306c2594c9b8af96edc924668792f69de", func := "roadbook/roadbooktop.WholeAtOnce", spec := "wholeAtOnce", unfollowed := true, recurses := true, apart := false }
def WholeAtOnceSaid : Prop := wholeAtOnceRow.holds Tryz.pinned (OpenSpec.ofChange wholeAtOnceSpec)

/-- ITS FALSE NEIGHBOUR: 'it returns false'. Refute it at one input. -/
def wholeAtOnceWrong : ChangeSpec := { name := "wholeAtOnce", fn := fun _ => fun
  | [d1, d2, d3] => { results := [.lit (.bool false)], args := [d1, d2, d3] }
  | _ => none }
def WholeAtOnceWrongFalsely : Prop := wholeAtOnceRow.holds Tryz.pinned (OpenSpec.ofChange wholeAtOnceWrong)

/-- 'roadbooktop.WholePack': WHATEVER THE INPUT: true; the input reads as it did. -/
def wholePackSpec : ChangeSpec := { name := "wholePack", fn := fun _ => fun
  | [d1, d2, d3] => { results := [.lit (.bool true)], args := [d1, d2, d3] }
  | _ => none }
def wholePackRow : OpenClaim := { program := "ytnmgchgmmnjbiaagreat", sum := "f2852d825d42b313e75c41b37147001306c2594c9b8af96edc924668792f69de", func := "roadbook/roadbooktop.WholePack", spec := "wholePack", unfollowed := true, recurses := true, apart := false }
def WholePackSaid : Prop := wholePackRow.holds Tryz.pinned (OpenSpec.ofChange wholePackSpec)

/-- ITS FALSE NEIGHBOUR: 'it returns false'. Refute it at one input. -/
def wholePackWrong : ChangeSpec := { name := "wholePack", fn := fun _ => fun
  | [d1, d2, d3] => { results := [.lit (.bool false)], args := [d1, d2, d3] }
  | _ => none }
def WholePackWrongFalsely : Prop := wholePackRow.holds Tryz.pinned (OpenSpec.ofChange wholePackWrong)

/-- 'roadbooktop.WholeDesk': WHATEVER THE INPUT: true; the input reads as it did. -/
def wholeDeskSpec : ChangeSpec := { name := "wholeDesk", fn := fun _ => fun
  | [d1, d2, d3] => { results := [.lit (.bool true)], args := [d1, d2, d3] }
  | _ => none }
def wholeDeskRow : OpenClaim := { program := "ytnmgchgmmnjbiaagreat", sum := "f2852d825d42b313e75c41b37147001306c2594c9b8af96edc924668792f69de", func := "roadbook/roadbooktop.WholeDesk", spec := "wholeDesk", inPlace := ["sync/atomic.LoadUint32", "sync/atomic.AddInt64", "sync/atomic.LoadInt64"], unfollowed := true, recurses := true, apart := false }
def WholeDeskSaid : Prop := wholeDeskRow.holds Tryz.pinned (OpenSpec.ofChange wholeDeskSpec)

/-- ITS FALSE NEIGHBOUR: 'it returns false'. Refute it at one input. -/
def wholeDeskWrong : ChangeSpec := { name := "wholeDesk", fn := fun _ => fun
  | [d1, d2, d3] => { results := [.lit (.bool false)], args := [d1, d2, d3] }
  | _ => none }
def WholeDeskWrongFalsely : Prop := wholeDeskRow.holds Tryz.pinned (OpenSpec.ofChange wholeDeskWrong)

/- THE SECOND FORM. 'bulk': how many values and letters a reading holds, each counted each time it is reached (what is shared counts as often as it is met; a slice's spare places count too). A statement '..UptoSaid' is the law's where the arguments, and the package variables that the reading takes, are together of bulk at most 1048576: NARROWER than '..Said'. Prove '..Said' where nothing that the law and all that it calls make is longer than what came in: it says more and counts as full. Else prove '..UptoSaid'. A law counts once. -/
mutual
def uptoBulk {H : Type} : DataW H → Nat
  | .lit (.string bytes) => bytes.length + 1
  | .lit _ => 1
  | .nil => 1
  | .ptr d => uptoBulk d + 1
  | .slice elems spare => uptoBulkAll elems + uptoBulkAll spare + 1
  | .agg parts => uptoBulkAll parts + 1
  | .iface _ d => uptoBulk d + 1
  | .map entries => uptoBulkEntries entries + 1
  | .held _ => 1
def uptoBulkAll {H : Type} : List (DataW H) → Nat
  | [] => 0
  | d :: r => uptoBulk d + uptoBulkAll r
def uptoBulkEntries {H : Type} : List (Lit × DataW H) → Nat
  | [] => 0
  | x :: r => uptoBulkEntry x + uptoBulkEntries r
def uptoBulkEntry {H : Type} : Lit × DataW H → Nat
  | (.string bytes, d) => bytes.length + uptoBulk d + 1
  | (_, d) => uptoBulk d + 1
 end
def uptoSmall : (H : Type) → List (DataW H) → Bool := fun _ ds => decide (uptoBulkAll ds ≤ 1048576)
def OpenSpec.upto (s : _root_.Go.ChangeSpec) : _root_.Go.OpenSpec := { _root_.Go.OpenSpec.ofChange s with cond := some uptoSmall }

/-- 'roadbooklaw26.SuiteTells', WHERE WHAT IT READS IS OF BULK AT MOST 1048576: true; the input reads as it did. -/
def suiteTellsUptoRow : OpenClaim := { program := "ytnmgchgmmnjbiaagreat", sum := "f2852d825d42b313e75c41b37147001306c2594c9b8af96edc924668792f69de", func := "roadbook/roadbooklaw26.SuiteTells", spec := "suiteTells", unfollowed := true, recurses := true, apart := false, narrowed := true }
def SuiteTellsUptoSaid : Prop := suiteTellsUptoRow.holds Tryz.pinned (OpenSpec.upto suiteTellsSpec)

/-- 'roadbooklaw26.SuiteBack', WHERE WHAT IT READS IS OF BULK AT MOST 1048576: true; the input reads as it did. -/
def suiteBackUptoRow : OpenClaim := { program := "ytnmgchgmmnjbiaagreat", sum := "f2852d825d42b313e75c41b37147001306c2594c9b8af96edc924668792f69de", func := "roadbook/roadbooklaw26.SuiteBack", spec := "suiteBack", unfollowed := true, recurses := true, apart := false, narrowed := true }
def SuiteBackUptoSaid : Prop := suiteBackUptoRow.holds Tryz.pinned (OpenSpec.upto suiteBackSpec)

/-- 'roadbooklaw26.SuiteAgain', WHERE WHAT IT READS IS OF BULK AT MOST 1048576: true; the input reads as it did. -/
def suiteAgainUptoRow : OpenClaim := { program := "ytnmgchgmmnjbiaagreat", sum := "f2852d825d42b313e75c41b37147001306c2594c9b8af96edc924668792f69de", func := "roadbook/roadbooklaw26.SuiteAgain", spec := "suiteAgain", unfollowed := true, recurses := true, apart := false, narrowed := true }
def SuiteAgainUptoSaid : Prop := suiteAgainUptoRow.holds Tryz.pinned (OpenSpec.upto suiteAgainSpec)

/-- 'roadbooklaw26.SuiteOne', WHERE WHAT IT READS IS OF BULK AT MOST 1048576: true; the input reads as it did. -/
def suiteOneUptoRow : OpenClaim := { program := "ytnmgchgmmnjbiaagreat", sum := "f2852d825d42b313e75c41b37147001306c2594c9b8af96edc924668792f69de", func := "roadbook/roadbooklaw26.SuiteOne", spec := "suiteOne", unfollowed := true, recurses := true, apart := false, narrowed := true }
def SuiteOneUptoSaid : Prop := suiteOneUptoRow.holds Tryz.pinned (OpenSpec.upto suiteOneSpec)

/-- 'roadbooklaw28.JoinTells', WHERE WHAT IT READS IS OF BULK AT MOST 1048576: true; the input reads as it did. -/
def joinTellsUptoRow : OpenClaim := { program := "ytnmgchgmmnjbiaagreat", sum := "f2852d825d42b313e75c41b37147001306c2594c9b8af96edc924668792f69de", func := "roadbook/roadbooklaw28.JoinTells", spec := "joinTells", unfollowed := true, recurses := true, apart := false, narrowed := true }
def JoinTellsUptoSaid : Prop := joinTellsUptoRow.holds Tryz.pinned (OpenSpec.upto joinTellsSpec)

/-- 'roadbooklaw28.JoinPacks', WHERE WHAT IT READS IS OF BULK AT MOST 1048576: true; the input reads as it did. -/
def joinPacksUptoRow : OpenClaim := { program := "ytnmgchgmmnjbiaagreat", sum := "f2852d825d42b313e75c41b37147001306c2594c9b8af96edc924668792f69de", func := "roadbook/roadbooklaw28.JoinPacks", spec := "joinPacks", unfollowed := true, recurses := true, apart := false, narrowed := true }
def JoinPacksUptoSaid : Prop := joinPacksUptoRow.holds Tryz.pinned (OpenSpec.upto joinPacksSpec)

/-- 'roadbooklaw28.JoinParts', WHERE WHAT IT READS IS OF BULK AT MOST 1048576: true; the input reads as it did. -/
def joinPartsUptoRow : OpenClaim := { program := "ytnmgchgmmnjbiaagreat", sum := "f2852d825d42b313e75c41b37147001306c2594c9b8af96edc924668792f69de", func := "roadbook/roadbooklaw28.JoinParts", spec := "joinParts", unfollowed := true, recurses := true, apart := false, narrowed := true }
def JoinPartsUptoSaid : Prop := joinPartsUptoRow.holds Tryz.pinned (OpenSpec.upto joinPartsSpec)

/-- 'roadbooklaw27.PackTells', WHERE WHAT IT READS IS OF BULK AT MOST 1048576: true; the input reads as it did. -/
def packTellsUptoRow : OpenClaim := { program := "ytnmgchgmmnjbiaagreat", sum := "f2852d825d42b313e75c41b37147001306c2594c9b8af96edc924668792f69de", func := "roadbook/roadbooklaw27.PackTells", spec := "packTells", unfollowed := true, recurses := true, apart := false, narrowed := true }
def PackTellsUptoSaid : Prop := packTellsUptoRow.holds Tryz.pinned (OpenSpec.upto packTellsSpec)

/-- 'roadbooklaw27.PackReads', WHERE WHAT IT READS IS OF BULK AT MOST 1048576: true; the input reads as it did. -/
def packReadsUptoRow : OpenClaim := { program := "ytnmgchgmmnjbiaagreat", sum := "f2852d825d42b313e75c41b37147001306c2594c9b8af96edc924668792f69de", func := "roadbook/roadbooklaw27.PackReads", spec := "packReads", unfollowed := true, recurses := true, apart := false, narrowed := true }
def PackReadsUptoSaid : Prop := packReadsUptoRow.holds Tryz.pinned (OpenSpec.upto packReadsSpec)

/-- 'roadbooklaw27.PackGreedy', WHERE WHAT IT READS IS OF BULK AT MOST 1048576: true; the input reads as it did. -/
def packGreedyUptoRow : OpenClaim := { program := "ytnmgchgmmnjbiaagreat", sum := "f2852d825d42b313e75c41b37147001306c2594c9b8af96edc924668792f69de", func := "roadbook/roadbooklaw27.PackGreedy", spec := "packGreedy", unfollowed := true, recurses := true, apart := false, narrowed := true }
def PackGreedyUptoSaid : Prop := packGreedyUptoRow.holds Tryz.pinned (OpenSpec.upto packGreedySpec)

/-- 'roadbooklaw27.PackSmall', WHERE WHAT IT READS IS OF BULK AT MOST 1048576: true; the input reads as it did. -/
def packSmallUptoRow : OpenClaim := { program := "ytnmgchgmmnjbiaagreat", sum := "f2852d825d42b313e75c41b37147001306c2594c9b8af96edc924668792f69de", func := "roadbook/roadbooklaw27.PackSmall", spec := "packSmall", unfollowed := true, recurses := true, apart := false, narrowed := true }
def PackSmallUptoSaid : Prop := packSmallUptoRow.holds Tryz.pinned (OpenSpec.upto packSmallSpec)

/-- 'roadbooklaw30.DeskKinds', WHERE WHAT IT READS IS OF BULK AT MOST 1048576: true; the input reads as it did. -/
def deskKindsUptoRow : OpenClaim := { program := "ytnmgchgmmnjbiaagreat", sum := "f2852d825d42b313e75c41b37147001306c2594c9b8af96edc924668792f69de", func := "roadbook/roadbooklaw30.DeskKinds", spec := "deskKinds", inPlace := ["sync/atomic.CompareAndSwapUint32", "sync/atomic.LoadUint32", "sync/atomic.AddInt64", "(*internal/sync.Mutex).Lock", "internal/race.Disable", "sync/atomic.CompareAndSwapInt32", "internal/race.Enable", "internal/race.Acquire", "(*internal/sync.Mutex).lockSlow", "internal/sync.runtime_canSpin", "internal/sync.runtime_doSpin", "internal/sync.throw", "internal/sync.runtime_nanotime", "internal/sync.runtime_SemacquireMutex", "sync/atomic.AddInt32", "(*internal/sync.Mutex).Unlock", "internal/race.ReleaseMerge", "(*internal/sync.Mutex).unlockSlow", "internal/sync.fatal", "internal/sync.runtime_Semrelease", "sync/atomic.StoreUint32"], unfollowed := true, recurses := true, apart := false, narrowed := true }
def DeskKindsUptoSaid : Prop := deskKindsUptoRow.holds Tryz.pinned (OpenSpec.upto deskKindsSpec)

/-- 'roadbooklaw30.DeskPlays', WHERE WHAT IT READS IS OF BULK AT MOST 1048576: true; the input reads as it did. -/
def deskPlaysUptoRow : OpenClaim := { program := "ytnmgchgmmnjbiaagreat", sum := "f2852d825d42b313e75c41b37147001306c2594c9b8af96edc924668792f69de", func := "roadbook/roadbooklaw30.DeskPlays", spec := "deskPlays", inPlace := ["sync/atomic.CompareAndSwapUint32", "sync/atomic.LoadUint32", "sync/atomic.AddInt64", "(*internal/sync.Mutex).Lock", "internal/race.Disable", "sync/atomic.CompareAndSwapInt32", "internal/race.Enable", "internal/race.Acquire", "(*internal/sync.Mutex).lockSlow", "internal/sync.runtime_canSpin", "internal/sync.runtime_doSpin", "internal/sync.throw", "internal/sync.runtime_nanotime", "internal/sync.runtime_SemacquireMutex", "sync/atomic.AddInt32", "(*internal/sync.Mutex).Unlock", "internal/race.ReleaseMerge", "(*internal/sync.Mutex).unlockSlow", "internal/sync.fatal", "internal/sync.runtime_Semrelease", "sync/atomic.StoreUint32", "sync/atomic.LoadInt64"], unfollowed := true, recurses := true, apart := false, narrowed := true }
def DeskPlaysUptoSaid : Prop := deskPlaysUptoRow.holds Tryz.pinned (OpenSpec.upto deskPlaysSpec)

/-- 'roadbooklaw30.DeskApart', WHERE WHAT IT READS IS OF BULK AT MOST 1048576: true; the input reads as it did. -/
def deskApartUptoRow : OpenClaim := { program := "ytnmgchgmmnjbiaagreat", sum := "f2852d825d42b313e75c41b37147001306c2594c9b8af96edc924668792f69de", func := "roadbook/roadbooklaw30.DeskApart", spec := "deskApart", inPlace := ["sync/atomic.CompareAndSwapUint32", "sync/atomic.LoadUint32", "sync/atomic.AddInt64", "(*internal/sync.Mutex).Lock", "internal/race.Disable", "sync/atomic.CompareAndSwapInt32", "internal/race.Enable", "internal/race.Acquire", "(*internal/sync.Mutex).lockSlow", "internal/sync.runtime_canSpin", "internal/sync.runtime_doSpin", "internal/sync.throw", "internal/sync.runtime_nanotime", "internal/sync.runtime_SemacquireMutex", "sync/atomic.AddInt32", "(*internal/sync.Mutex).Unlock", "internal/race.ReleaseMerge", "(*internal/sync.Mutex).unlockSlow", "internal/sync.fatal", "internal/sync.runtime_Semrelease", "sync/atomic.StoreUint32", "sync/atomic.LoadInt64"], unfollowed := true, recurses := true, apart := false, narrowed := true }
def DeskApartUptoSaid : Prop := deskApartUptoRow.holds Tryz.pinned (OpenSpec.upto deskApartSpec)

/-- 'roadbooktop.WholeAtOnce', WHERE WHAT IT READS IS OF BULK AT MOST 1048576: true; the input reads as it did. -/
def wholeAtOnceUptoRow : OpenClaim := { program := "ytnmgchgmmnjbiaagreat", sum := "f2852d825d42b313e75c41b37147001306c2594c9b8af96edc924668792f69de", func := "roadbook/roadbooktop.WholeAtOnce", spec := "wholeAtOnce", unfollowed := true, recurses := true, apart := false, narrowed := true }
def WholeAtOnceUptoSaid : Prop := wholeAtOnceUptoRow.holds Tryz.pinned (OpenSpec.upto wholeAtOnceSpec)

/-- 'roadbooktop.WholePack', WHERE WHAT IT READS IS OF BULK AT MOST 1048576: true; the input reads as it did. -/
def wholePackUptoRow : OpenClaim := { program := "ytnmgchgmmnjbiaagreat", sum := "f2852d825d42b313e75c41b37147001306c2594c9b8af96edc924668792f69de", func := "roadbook/roadbooktop.WholePack", spec := "wholePack", unfollowed := true, recurses := true, apart := false, narrowed := true }
def WholePackUptoSaid : Prop := wholePackUptoRow.holds Tryz.pinned (OpenSpec.upto wholePackSpec)

/-- 'roadbooktop.WholeDesk', WHERE WHAT IT READS IS OF BULK AT MOST 1048576: true; the input reads as it did. -/
def wholeDeskUptoRow : OpenClaim := { program := "ytnmgchgmmnjbiaagreat", sum := "f2852d825d42b313e75c41b37147001306c2594c9b8af96edc924668792f69de", func := "roadbook/roadbooktop.WholeDesk", spec := "wholeDesk", inPlace := ["sync/atomic.LoadUint32", "sync/atomic.AddInt64", "sync/atomic.LoadInt64"], unfollowed := true, recurses := true, apart := false, narrowed := true }
def WholeDeskUptoSaid : Prop := wholeDeskUptoRow.holds Tryz.pinned (OpenSpec.upto wholeDeskSpec)

end Rows
end Go.Proofs.YtnmgchgmmnjbiaaGreat
