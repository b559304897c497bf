/-
  No cell of these rows narrows 'for every input' (looked for: loops, veiled, ifaces, maps, wideKeys, modest, calm, conditions, laid).
  DERIVED. THE GIVEN ROWS OF THIS SEAT. 5 by the template 'for every input the law returns true; each argument reads behind the call as it read before'; 0 by the template 'total and deterministic' (their statements: YtbjiookpiminmaaTotals.lean).
  GIVEN WITH THE SEED: the statements are not yours to turn. If you find one false, say at which input.
  Laid BY PROGRAM, IN A SANDBOX (cutbox-rows.mjs): the forced cells as the released guide's own fill.sh prints them over the translation a3534b7758b91393… (all of the seat's roots in one cut). By AI agents, Wed Nov 11 2026. No macro, syntax, notation, axiom, sorry.
-/
import Derived.Test.YtbjiookpiminmaaChecked
import GoSem.Claim
import GoSem.ClaimJoined
import GoSem.ClaimMapViews
import Derived.JoinedTies
import Derived.KernelRfl
namespace Go.Proofs.Ytbjiookpiminmaa
/- THE CELL 'sum', in the pinned program and in every row, IS THE sha256 OF THE DUMP (.gsa) THAT YtbjiookpiminmaaProg.lean LOADS. Nothing in Lean hashes anything: it is a label: what it is worth is what the hold of that sum in a sandbox is worth. -/
noncomputable def Try.pinned : Pinned := { name := "ytbjiookpiminmaa", sum := "a3534b7758b913938f97f670e5c373cc0d313a34488a892d816c29addd881354", checked := Try.checked }
namespace Rows
def none {H : Type} : Left H := { results := [], args := [] }

/-- 'downtiltlaw02.CodeNeverMixed': WHATEVER THE INPUT: true; the input reads as it did. -/
def codeNeverMixedSpec : ChangeSpec := { name := "codeNeverMixed", fn := fun _ => fun
  | [d1, d2] => { results := [.lit (.bool true)], args := [d1, d2] }
  | _ => none }
def codeNeverMixedRow : OpenClaim := { program := "ytbjiookpiminmaa", sum := "a3534b7758b913938f97f670e5c373cc0d313a34488a892d816c29addd881354", func := "downtilt/downtiltlaw02.CodeNeverMixed", spec := "codeNeverMixed", unfollowed := true, recurses := true, leaving := true, apart := false }
def CodeNeverMixedSaid : Prop := codeNeverMixedRow.holds Try.pinned (OpenSpec.ofChange codeNeverMixedSpec)

/-- ITS FALSE NEIGHBOUR: 'it returns false'. Refute it at one input. -/
def codeNeverMixedWrong : ChangeSpec := { name := "codeNeverMixed", fn := fun _ => fun
  | [d1, d2] => { results := [.lit (.bool false)], args := [d1, d2] }
  | _ => none }
def CodeNeverMixedWrongFalsely : Prop := codeNeverMixedRow.holds Try.pinned (OpenSpec.ofChange codeNeverMixedWrong)

/-- 'downtiltlaw06.SchedRuns': WHATEVER THE INPUT: true; the input reads as it did. -/
def schedRunsSpec : ChangeSpec := { name := "schedRuns", fn := fun _ => fun
  | [d1, d2, d3] => { results := [.lit (.bool true)], args := [d1, d2, d3] }
  | _ => none }
def schedRunsRow : OpenClaim := { program := "ytbjiookpiminmaa", sum := "a3534b7758b913938f97f670e5c373cc0d313a34488a892d816c29addd881354", func := "downtilt/downtiltlaw06.SchedRuns", spec := "schedRuns", unfollowed := true, recurses := true, leaving := true, apart := false }
def SchedRunsSaid : Prop := schedRunsRow.holds Try.pinned (OpenSpec.ofChange schedRunsSpec)

/-- ITS FALSE NEIGHBOUR: 'it returns false'. Refute it at one input. -/
def schedRunsWrong : ChangeSpec := { name := "schedRuns", fn := fun _ => fun
  | [d1, d2, d3] => { results := [.lit (.bool false)], args := [d1, d2, d3] }
  | _ => none }
def SchedRunsWrongFalsely : Prop := schedRunsRow.holds Try.pinned (OpenSpec.ofChange schedRunsWrong)

/-- 'downtilttop.TopCodeSegmented': WHATEVER THE INPUT: true; the input reads as it did. -/
def topCodeSegmentedSpec : ChangeSpec := { name := "topCodeSegmented", fn := fun _ => fun
  | [d1, d2, d3] => { results := [.lit (.bool true)], args := [d1, d2, d3] }
  | _ => none }
def topCodeSegmentedRow : OpenClaim := { program := "ytbjiookpiminmaa", sum := "a3534b7758b913938f97f670e5c373cc0d313a34488a892d816c29addd881354", func := "downtilt/downtilttop.TopCodeSegmented", spec := "topCodeSegmented", unfollowed := true, recurses := true, leaving := true, apart := false }
def TopCodeSegmentedSaid : Prop := topCodeSegmentedRow.holds Try.pinned (OpenSpec.ofChange topCodeSegmentedSpec)

/-- ITS FALSE NEIGHBOUR: 'it returns false'. Refute it at one input. -/
def topCodeSegmentedWrong : ChangeSpec := { name := "topCodeSegmented", fn := fun _ => fun
  | [d1, d2, d3] => { results := [.lit (.bool false)], args := [d1, d2, d3] }
  | _ => none }
def TopCodeSegmentedWrongFalsely : Prop := topCodeSegmentedRow.holds Try.pinned (OpenSpec.ofChange topCodeSegmentedWrong)

/-- 'downtiltlaw02.CodeSums': WHATEVER THE INPUT: true; the input reads as it did. -/
def codeSumsSpec : ChangeSpec := { name := "codeSums", fn := fun _ => fun
  | [d1, d2, d3] => { results := [.lit (.bool true)], args := [d1, d2, d3] }
  | _ => none }
def codeSumsRow : OpenClaim := { program := "ytbjiookpiminmaa", sum := "a3534b7758b913938f97f670e5c373cc0d313a34488a892d816c29addd881354", func := "downtilt/downtiltlaw02.CodeSums", spec := "codeSums", inPlace := ["(*sync.WaitGroup).Add", "internal/race.ReleaseMerge", "internal/race.Disable", "internal/race.Enable", "internal/synctest.IsInBubble", "internal/synctest.Associate[sync.WaitGroup]", "sync.fatal", "sync/atomic.OrUint64", "sync/atomic.AddUint64", "internal/race.Read", "sync/atomic.LoadUint64", "sync/atomic.StoreUint64", "internal/synctest.Disassociate[sync.WaitGroup]", "sync.runtime_Semrelease", "(*sync.WaitGroup).Done", "(*sync.WaitGroup).Wait", "internal/race.Acquire", "internal/synctest.IsAssociated[sync.WaitGroup]", "sync/atomic.CompareAndSwapUint64", "internal/race.Write", "sync.runtime_SemacquireWaitGroup"], unfollowed := true, recurses := true, leaving := true, apart := false }
def CodeSumsSaid : Prop := codeSumsRow.holds Try.pinned (OpenSpec.ofChange codeSumsSpec)

/-- ITS FALSE NEIGHBOUR: 'it returns false'. Refute it at one input. -/
def codeSumsWrong : ChangeSpec := { name := "codeSums", fn := fun _ => fun
  | [d1, d2, d3] => { results := [.lit (.bool false)], args := [d1, d2, d3] }
  | _ => none }
def CodeSumsWrongFalsely : Prop := codeSumsRow.holds Try.pinned (OpenSpec.ofChange codeSumsWrong)

/-- 'downtilttop.TopSchedNoFairerShare': WHATEVER THE INPUT: true; the input reads as it did. -/
def topSchedNoFairerShareSpec : ChangeSpec := { name := "topSchedNoFairerShare", fn := fun _ => fun
  | [d1, d2, d3] => { results := [.lit (.bool true)], args := [d1, d2, d3] }
  | _ => none }
def topSchedNoFairerShareRow : OpenClaim := { program := "ytbjiookpiminmaa", sum := "a3534b7758b913938f97f670e5c373cc0d313a34488a892d816c29addd881354", func := "downtilt/downtilttop.TopSchedNoFairerShare", spec := "topSchedNoFairerShare", unfollowed := true, recurses := true, leaving := true, apart := false }
def TopSchedNoFairerShareSaid : Prop := topSchedNoFairerShareRow.holds Try.pinned (OpenSpec.ofChange topSchedNoFairerShareSpec)

/-- ITS FALSE NEIGHBOUR: 'it returns false'. Refute it at one input. -/
def topSchedNoFairerShareWrong : ChangeSpec := { name := "topSchedNoFairerShare", fn := fun _ => fun
  | [d1, d2, d3] => { results := [.lit (.bool false)], args := [d1, d2, d3] }
  | _ => none }
def TopSchedNoFairerShareWrongFalsely : Prop := topSchedNoFairerShareRow.holds Try.pinned (OpenSpec.ofChange topSchedNoFairerShareWrong)

/- THE SECOND FORM. 'bulk': how many values and letters a reading holds, each counted each time it is reached (what is shared counts as often as it is met; a slice's spare places count too). A statement '..UptoSaid' is the law's where the arguments, and the package variables that the reading takes, are together of bulk at most 1048576: NARROWER than '..Said'. Prove '..Said' where nothing that the law and all that it calls make is longer than what came in: it says more and counts as full. Else prove '..UptoSaid'. A law counts once. -/
mutual
def uptoBulk {H : Type} : DataW H → Nat
  | .lit (.string bytes) => bytes.length + 1
  | .lit _ => 1
  | .nil => 1
  | .ptr d => uptoBulk d + 1
  | .slice elems spare => uptoBulkAll elems + uptoBulkAll spare + 1
  | .agg parts => uptoBulkAll parts + 1
  | .iface _ d => uptoBulk d + 1
  | .map entries => uptoBulkEntries entries + 1
  | .held _ => 1
def uptoBulkAll {H : Type} : List (DataW H) → Nat
  | [] => 0
  | d :: r => uptoBulk d + uptoBulkAll r
def uptoBulkEntries {H : Type} : List (Lit × DataW H) → Nat
  | [] => 0
  | x :: r => uptoBulkEntry x + uptoBulkEntries r
def uptoBulkEntry {H : Type} : Lit × DataW H → Nat
  | (.string bytes, d) => bytes.length + uptoBulk d + 1
  | (_, d) => uptoBulk d + 1
 end
def uptoSmall : (H : Type) → List (DataW H) → Bool := fun _ ds => decide (uptoBulkAll ds ≤ 1048576)
def OpenSpec.upto (s : _root_.Go.ChangeSpec) : _root_.Go.OpenSpec := { _root_.Go.OpenSpec.ofChange s with cond := some uptoSmall }

/-- 'downtiltlaw02.CodeNeverMixed', WHERE WHAT IT READS IS OF BULK AT MOST 1048576: true; the input reads as it did. -/
def codeNeverMixedUptoRow : OpenClaim := { program := "ytbjiookpiminmaa", sum := "a3534b7758b913938f97f670e5c373cc0d313a34488a892d816c29addd881354", func := "downtilt/downtiltlaw02.CodeNeverMixed", spec := "codeNeverMixed", unfollowed := true, recurses := true, leaving := true, apart := false, narrowed := true }
def CodeNeverMixedUptoSaid : Prop := codeNeverMixedUptoRow.holds Try.pinned (OpenSpec.upto codeNeverMixedSpec)

/-- 'downtiltlaw06.SchedRuns', WHERE WHAT IT READS IS OF BULK AT MOST 1048576: true; the input reads as it did. -/
def schedRunsUptoRow : OpenClaim := { program := "ytbjiookpiminmaa", sum := "a3534b7758b913938f97f670e5c373cc0d313a34488a892d816c29addd881354", func := "downtilt/downtiltlaw06.SchedRuns", spec := "schedRuns", unfollowed := true, recurses := true, leaving := true, apart := false, narrowed := true }
def SchedRunsUptoSaid : Prop := schedRunsUptoRow.holds Try.pinned (OpenSpec.upto schedRunsSpec)

/-- 'downtilttop.TopCodeSegmented', WHERE WHAT IT READS IS OF BULK AT MOST 1048576: true; the input reads as it did. -/
def topCodeSegmentedUptoRow : OpenClaim := { program := "ytbjiookpiminmaa", sum := "a3534b7758b913938f97f670e5c373cc0d313a34488a892d816c29addd881354", func := "downtilt/downtilttop.TopCodeSegmented", spec := "topCodeSegmented", unfollowed := true, recurses := true, leaving := true, apart := false, narrowed := true }
def TopCodeSegmentedUptoSaid : Prop := topCodeSegmentedUptoRow.holds Try.pinned (OpenSpec.upto topCodeSegmentedSpec)

/-- 'downtiltlaw02.CodeSums', WHERE WHAT IT READS IS OF BULK AT MOST 1048576: true; the input reads as it did. -/
def codeSumsUptoRow : OpenClaim := { program := "ytbjiookpiminmaa", sum := "a3534b7758b913938f97f670e5c373cc0d313a34488a892d816c29addd881354", func := "downtilt/downtiltlaw02.CodeSums", spec := "codeSums", inPlace := ["(*sync.WaitGroup).Add", "internal/race.ReleaseMerge", "internal/race.Disable", "internal/race.Enable", "internal/synctest.IsInBubble", "internal/synctest.Associate[sync.WaitGroup]", "sync.fatal", "sync/atomic.OrUint64", "sync/atomic.AddUint64", "internal/race.Read", "sync/atomic.LoadUint64", "sync/atomic.StoreUint64", "internal/synctest.Disassociate[sync.WaitGroup]", "sync.runtime_Semrelease", "(*sync.WaitGroup).Done", "(*sync.WaitGroup).Wait", "internal/race.Acquire", "internal/synctest.IsAssociated[sync.WaitGroup]", "sync/atomic.CompareAndSwapUint64", "internal/race.Write", "sync.runtime_SemacquireWaitGroup"], unfollowed := true, recurses := true, leaving := true, apart := false, narrowed := true }
def CodeSumsUptoSaid : Prop := codeSumsUptoRow.holds Try.pinned (OpenSpec.upto codeSumsSpec)

/-- 'downtilttop.TopSchedNoFairerShare', WHERE WHAT IT READS IS OF BULK AT MOST 1048576: true; the input reads as it did. -/
def topSchedNoFairerShareUptoRow : OpenClaim := { program := "ytbjiookpiminmaa", sum := "a3534b7758b913938f97f670e5c373cc0d313a34488a892d816c29addd881354", func := "downtilt/downtilttop.TopSchedNoFairerShare", spec := "topSchedNoFairerShare", unfollowed := true, recurses := true, leaving := true, apart := false, narrowed := true }
def TopSchedNoFairerShareUptoSaid : Prop := topSchedNoFairerShareUptoRow.holds Try.pinned (OpenSpec.upto topSchedNoFairerShareSpec)

end Rows
end Go.Proofs.Ytbjiookpiminmaa
