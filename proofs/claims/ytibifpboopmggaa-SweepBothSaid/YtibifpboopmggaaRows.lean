/-
  No cell of these rows narrows 'for every input' (looked for: loops, veiled, ifaces, maps, wideKeys, modest, calm, conditions, laid).
  DERIVED. THE GIVEN ROWS OF THIS SEAT. 12 by the template 'for every input the law returns true; each argument reads behind the call as it read before'; 0 by the template 'total and deterministic' (their statements: YtibifpboopmggaaTotals.lean).
  GIVEN WITH THE SEED: the statements are not yours to turn. If you find one false, say at which input.
  Laid BY PROGRAM, IN A SANDBOX (cutbox-rows.mjs): the forced cells as the released guide's own fill.sh prints them over the translation 338b69e2502f9cc3… (all of the seat's roots in one cut). By AI agents, Wed Nov 11 2026. No macro, syntax, notation, axiom, sorry.
-/
import Derived.Test.YtibifpboopmggaaChecked
import GoSem.Claim
import GoSem.ClaimJoined
import GoSem.ClaimMapViews
import Derived.JoinedTies
import Derived.KernelRfl
namespace Go.Proofs.Ytibifpboopmggaa
/- THE CELL 'sum', in the pinned program and in every row, IS THE sha256 OF THE DUMP (.gsa) THAT YtibifpboopmggaaProg.lean LOADS. Nothing in Lean hashes anything: it is a label: what it is worth is what the hold of that sum in a sandbox is worth. -/
noncomputable def Try.pinned : Pinned := { name := "ytibifpboopmggaa", sum := "338b69e2502f9cc3ae7ac0e48d8af6298e7f1aa79858e6af372c4d1a8b827bef", checked := Try.checked }
namespace Rows
def none {H : Type} : Left H := { results := [], args := [] }

/-- 'withylaw23.HeapChecks': WHATEVER THE INPUT: true; the input reads as it did. -/
def heapChecksSpec : ChangeSpec := { name := "heapChecks", fn := fun _ => fun
  | [d1, d2, d3, d4, d5, d6] => { results := [.lit (.bool true)], args := [d1, d2, d3, d4, d5, d6] }
  | _ => none }
def heapChecksRow : OpenClaim := { program := "ytibifpboopmggaa", sum := "338b69e2502f9cc3ae7ac0e48d8af6298e7f1aa79858e6af372c4d1a8b827bef", func := "withy/withylaw23.HeapChecks", spec := "heapChecks", unfollowed := true, recurses := true, apart := false }
def HeapChecksSaid : Prop := heapChecksRow.holds Try.pinned (OpenSpec.ofChange heapChecksSpec)

/-- ITS FALSE NEIGHBOUR: 'it returns false'. Refute it at one input. -/
def heapChecksWrong : ChangeSpec := { name := "heapChecks", fn := fun _ => fun
  | [d1, d2, d3, d4, d5, d6] => { results := [.lit (.bool false)], args := [d1, d2, d3, d4, d5, d6] }
  | _ => none }
def HeapChecksWrongFalsely : Prop := heapChecksRow.holds Try.pinned (OpenSpec.ofChange heapChecksWrong)

/-- 'withylaw23.HeapNeeds': WHATEVER THE INPUT: true; the input reads as it did. -/
def heapNeedsSpec : ChangeSpec := { name := "heapNeeds", fn := fun _ => fun
  | [d1, d2, d3, d4] => { results := [.lit (.bool true)], args := [d1, d2, d3, d4] }
  | _ => none }
def heapNeedsRow : OpenClaim := { program := "ytibifpboopmggaa", sum := "338b69e2502f9cc3ae7ac0e48d8af6298e7f1aa79858e6af372c4d1a8b827bef", func := "withy/withylaw23.HeapNeeds", spec := "heapNeeds", unfollowed := true, recurses := true, apart := false }
def HeapNeedsSaid : Prop := heapNeedsRow.holds Try.pinned (OpenSpec.ofChange heapNeedsSpec)

/-- ITS FALSE NEIGHBOUR: 'it returns false'. Refute it at one input. -/
def heapNeedsWrong : ChangeSpec := { name := "heapNeeds", fn := fun _ => fun
  | [d1, d2, d3, d4] => { results := [.lit (.bool false)], args := [d1, d2, d3, d4] }
  | _ => none }
def HeapNeedsWrongFalsely : Prop := heapNeedsRow.holds Try.pinned (OpenSpec.ofChange heapNeedsWrong)

/-- 'withylaw20.IterAgain': WHATEVER THE INPUT: true; the input reads as it did. -/
def iterAgainSpec : ChangeSpec := { name := "iterAgain", fn := fun _ => fun
  | [d1, d2, d3] => { results := [.lit (.bool true)], args := [d1, d2, d3] }
  | _ => none }
def iterAgainRow : OpenClaim := { program := "ytibifpboopmggaa", sum := "338b69e2502f9cc3ae7ac0e48d8af6298e7f1aa79858e6af372c4d1a8b827bef", func := "withy/withylaw20.IterAgain", spec := "iterAgain", apart := false }
def IterAgainSaid : Prop := iterAgainRow.holds Try.pinned (OpenSpec.ofChange iterAgainSpec)

/-- ITS FALSE NEIGHBOUR: 'it returns false'. Refute it at one input. -/
def iterAgainWrong : ChangeSpec := { name := "iterAgain", fn := fun _ => fun
  | [d1, d2, d3] => { results := [.lit (.bool false)], args := [d1, d2, d3] }
  | _ => none }
def IterAgainWrongFalsely : Prop := iterAgainRow.holds Try.pinned (OpenSpec.ofChange iterAgainWrong)

/-- 'withylaw20.IterLone': WHATEVER THE INPUT: true; the input reads as it did. -/
def iterLoneSpec : ChangeSpec := { name := "iterLone", fn := fun _ => fun
  | [d1, d2, d3] => { results := [.lit (.bool true)], args := [d1, d2, d3] }
  | _ => none }
def iterLoneRow : OpenClaim := { program := "ytibifpboopmggaa", sum := "338b69e2502f9cc3ae7ac0e48d8af6298e7f1aa79858e6af372c4d1a8b827bef", func := "withy/withylaw20.IterLone", spec := "iterLone", apart := false }
def IterLoneSaid : Prop := iterLoneRow.holds Try.pinned (OpenSpec.ofChange iterLoneSpec)

/-- ITS FALSE NEIGHBOUR: 'it returns false'. Refute it at one input. -/
def iterLoneWrong : ChangeSpec := { name := "iterLone", fn := fun _ => fun
  | [d1, d2, d3] => { results := [.lit (.bool false)], args := [d1, d2, d3] }
  | _ => none }
def IterLoneWrongFalsely : Prop := iterLoneRow.holds Try.pinned (OpenSpec.ofChange iterLoneWrong)

/-- 'withylaw20.IterWalks': WHATEVER THE INPUT: true; the input reads as it did. -/
def iterWalksSpec : ChangeSpec := { name := "iterWalks", fn := fun _ => fun
  | [d1, d2, d3, d4] => { results := [.lit (.bool true)], args := [d1, d2, d3, d4] }
  | _ => none }
def iterWalksRow : OpenClaim := { program := "ytibifpboopmggaa", sum := "338b69e2502f9cc3ae7ac0e48d8af6298e7f1aa79858e6af372c4d1a8b827bef", func := "withy/withylaw20.IterWalks", spec := "iterWalks", apart := false }
def IterWalksSaid : Prop := iterWalksRow.holds Try.pinned (OpenSpec.ofChange iterWalksSpec)

/-- ITS FALSE NEIGHBOUR: 'it returns false'. Refute it at one input. -/
def iterWalksWrong : ChangeSpec := { name := "iterWalks", fn := fun _ => fun
  | [d1, d2, d3, d4] => { results := [.lit (.bool false)], args := [d1, d2, d3, d4] }
  | _ => none }
def IterWalksWrongFalsely : Prop := iterWalksRow.holds Try.pinned (OpenSpec.ofChange iterWalksWrong)

/-- 'withylaw20.IterSteps': WHATEVER THE INPUT: true; the input reads as it did. -/
def iterStepsSpec : ChangeSpec := { name := "iterSteps", fn := fun _ => fun
  | [d1, d2] => { results := [.lit (.bool true)], args := [d1, d2] }
  | _ => none }
def iterStepsRow : OpenClaim := { program := "ytibifpboopmggaa", sum := "338b69e2502f9cc3ae7ac0e48d8af6298e7f1aa79858e6af372c4d1a8b827bef", func := "withy/withylaw20.IterSteps", spec := "iterSteps", apart := false }
def IterStepsSaid : Prop := iterStepsRow.holds Try.pinned (OpenSpec.ofChange iterStepsSpec)

/-- ITS FALSE NEIGHBOUR: 'it returns false'. Refute it at one input. -/
def iterStepsWrong : ChangeSpec := { name := "iterSteps", fn := fun _ => fun
  | [d1, d2] => { results := [.lit (.bool false)], args := [d1, d2] }
  | _ => none }
def IterStepsWrongFalsely : Prop := iterStepsRow.holds Try.pinned (OpenSpec.ofChange iterStepsWrong)

/-- 'withylaw14.SweepSweeps': WHATEVER THE INPUT: true; the input reads as it did. -/
def sweepSweepsSpec : ChangeSpec := { name := "sweepSweeps", fn := fun _ => fun
  | [d1, d2, d3] => { results := [.lit (.bool true)], args := [d1, d2, d3] }
  | _ => none }
def sweepSweepsRow : OpenClaim := { program := "ytibifpboopmggaa", sum := "338b69e2502f9cc3ae7ac0e48d8af6298e7f1aa79858e6af372c4d1a8b827bef", func := "withy/withylaw14.SweepSweeps", spec := "sweepSweeps", unfollowed := true, recurses := true, apart := false }
def SweepSweepsSaid : Prop := sweepSweepsRow.holds Try.pinned (OpenSpec.ofChange sweepSweepsSpec)

/-- ITS FALSE NEIGHBOUR: 'it returns false'. Refute it at one input. -/
def sweepSweepsWrong : ChangeSpec := { name := "sweepSweeps", fn := fun _ => fun
  | [d1, d2, d3] => { results := [.lit (.bool false)], args := [d1, d2, d3] }
  | _ => none }
def SweepSweepsWrongFalsely : Prop := sweepSweepsRow.holds Try.pinned (OpenSpec.ofChange sweepSweepsWrong)

/-- 'withylaw14.SweepReclaims': WHATEVER THE INPUT: true; the input reads as it did. -/
def sweepReclaimsSpec : ChangeSpec := { name := "sweepReclaims", fn := fun _ => fun
  | [d1, d2] => { results := [.lit (.bool true)], args := [d1, d2] }
  | _ => none }
def sweepReclaimsRow : OpenClaim := { program := "ytibifpboopmggaa", sum := "338b69e2502f9cc3ae7ac0e48d8af6298e7f1aa79858e6af372c4d1a8b827bef", func := "withy/withylaw14.SweepReclaims", spec := "sweepReclaims", unfollowed := true, recurses := true, apart := false }
def SweepReclaimsSaid : Prop := sweepReclaimsRow.holds Try.pinned (OpenSpec.ofChange sweepReclaimsSpec)

/-- ITS FALSE NEIGHBOUR: 'it returns false'. Refute it at one input. -/
def sweepReclaimsWrong : ChangeSpec := { name := "sweepReclaims", fn := fun _ => fun
  | [d1, d2] => { results := [.lit (.bool false)], args := [d1, d2] }
  | _ => none }
def SweepReclaimsWrongFalsely : Prop := sweepReclaimsRow.holds Try.pinned (OpenSpec.ofChange sweepReclaimsWrong)

/-- 'withylaw14.SweepBoth': WHATEVER THE INPUT: true; the input reads as it did. -/
def sweepBothSpec : ChangeSpec := { name := "sweepBoth", fn := fun _ => fun
  | [d1, d2, d3] => { results := [.lit (.bool true)], args := [d1, d2, d3] }
  | _ => none }
def sweepBothRow : OpenClaim := { program := "ytibifpboopmggaa", sum := "338b69e2502f9cc3ae7ac0e48d8af6298e7f1aa79858e6af372c4d1a8b827bef", func := "withy/withylaw14.SweepBoth", spec := "sweepBoth", unfollowed := true, recurses := true, apart := false }
def SweepBothSaid : Prop := sweepBothRow.holds Try.pinned (OpenSpec.ofChange sweepBothSpec)

/-- ITS FALSE NEIGHBOUR: 'it returns false'. Refute it at one input. -/
def sweepBothWrong : ChangeSpec := { name := "sweepBoth", fn := fun _ => fun
  | [d1, d2, d3] => { results := [.lit (.bool false)], args := [d1, d2, d3] }
  | _ => none }
def SweepBothWrongFalsely : Prop := sweepBothRow.holds Try.pinned (OpenSpec.ofChange sweepBothWrong)

/-- 'withylaw14.SweepShades': WHATEVER THE INPUT: true; the input reads as it did. -/
def sweepShadesSpec : ChangeSpec := { name := "sweepShades", fn := fun _ => fun
  | [d1, d2, d3] => { results := [.lit (.bool true)], args := [d1, d2, d3] }
  | _ => none }
def sweepShadesRow : OpenClaim := { program := "ytibifpboopmggaa", sum := "338b69e2502f9cc3ae7ac0e48d8af6298e7f1aa79858e6af372c4d1a8b827bef", func := "withy/withylaw14.SweepShades", spec := "sweepShades", unfollowed := true, recurses := true, apart := false }
def SweepShadesSaid : Prop := sweepShadesRow.holds Try.pinned (OpenSpec.ofChange sweepShadesSpec)

/-- ITS FALSE NEIGHBOUR: 'it returns false'. Refute it at one input. -/
def sweepShadesWrong : ChangeSpec := { name := "sweepShades", fn := fun _ => fun
  | [d1, d2, d3] => { results := [.lit (.bool false)], args := [d1, d2, d3] }
  | _ => none }
def SweepShadesWrongFalsely : Prop := sweepShadesRow.holds Try.pinned (OpenSpec.ofChange sweepShadesWrong)

/-- 'withylaw19.LinReplays': WHATEVER THE INPUT: true; the input reads as it did. -/
def linReplaysSpec : ChangeSpec := { name := "linReplays", fn := fun _ => fun
  | [d1, d2, d3] => { results := [.lit (.bool true)], args := [d1, d2, d3] }
  | _ => none }
def linReplaysRow : OpenClaim := { program := "ytibifpboopmggaa", sum := "338b69e2502f9cc3ae7ac0e48d8af6298e7f1aa79858e6af372c4d1a8b827bef", func := "withy/withylaw19.LinReplays", spec := "linReplays", inPlace := ["maps.clone"], unfollowed := true, recurses := true, apart := false }
def LinReplaysSaid : Prop := linReplaysRow.holds Try.pinned (OpenSpec.ofChange linReplaysSpec)

/-- ITS FALSE NEIGHBOUR: 'it returns false'. Refute it at one input. -/
def linReplaysWrong : ChangeSpec := { name := "linReplays", fn := fun _ => fun
  | [d1, d2, d3] => { results := [.lit (.bool false)], args := [d1, d2, d3] }
  | _ => none }
def LinReplaysWrongFalsely : Prop := linReplaysRow.holds Try.pinned (OpenSpec.ofChange linReplaysWrong)

/-- 'withylaw19.LinSearches': WHATEVER THE INPUT: true; the input reads as it did. -/
def linSearchesSpec : ChangeSpec := { name := "linSearches", fn := fun _ => fun
  | [d1, d2] => { results := [.lit (.bool true)], args := [d1, d2] }
  | _ => none }
def linSearchesRow : OpenClaim := { program := "ytibifpboopmggaa", sum := "338b69e2502f9cc3ae7ac0e48d8af6298e7f1aa79858e6af372c4d1a8b827bef", func := "withy/withylaw19.LinSearches", spec := "linSearches", inPlace := ["maps.clone"], unfollowed := true, recurses := true, apart := false }
def LinSearchesSaid : Prop := linSearchesRow.holds Try.pinned (OpenSpec.ofChange linSearchesSpec)

/-- ITS FALSE NEIGHBOUR: 'it returns false'. Refute it at one input. -/
def linSearchesWrong : ChangeSpec := { name := "linSearches", fn := fun _ => fun
  | [d1, d2] => { results := [.lit (.bool false)], args := [d1, d2] }
  | _ => none }
def LinSearchesWrongFalsely : Prop := linSearchesRow.holds Try.pinned (OpenSpec.ofChange linSearchesWrong)

/- THE SECOND FORM. 'bulk': how many values and letters a reading holds, each counted each time it is reached (what is shared counts as often as it is met; a slice's spare places count too). A statement '..UptoSaid' is the law's where the arguments, and the package variables that the reading takes, are together of bulk at most 1048576: NARROWER than '..Said'. Prove '..Said' where nothing that the law and all that it calls make is longer than what came in: it says more and counts as full. Else prove '..UptoSaid'. A law counts once. -/
mutual
def uptoBulk {H : Type} : DataW H → Nat
  | .lit (.string bytes) => bytes.length + 1
  | .lit _ => 1
  | .nil => 1
  | .ptr d => uptoBulk d + 1
  | .slice elems spare => uptoBulkAll elems + uptoBulkAll spare + 1
  | .agg parts => uptoBulkAll parts + 1
  | .iface _ d => uptoBulk d + 1
  | .map entries => uptoBulkEntries entries + 1
  | .held _ => 1
def uptoBulkAll {H : Type} : List (DataW H) → Nat
  | [] => 0
  | d :: r => uptoBulk d + uptoBulkAll r
def uptoBulkEntries {H : Type} : List (Lit × DataW H) → Nat
  | [] => 0
  | x :: r => uptoBulkEntry x + uptoBulkEntries r
def uptoBulkEntry {H : Type} : Lit × DataW H → Nat
  | (.string bytes, d) => bytes.length + uptoBulk d + 1
  | (_, d) => uptoBulk d + 1
 end
def uptoSmall : (H : Type) → List (DataW H) → Bool := fun _ ds => decide (uptoBulkAll ds ≤ 1048576)
def OpenSpec.upto (s : _root_.Go.ChangeSpec) : _root_.Go.OpenSpec := { _root_.Go.OpenSpec.ofChange s with cond := some uptoSmall }

/-- 'withylaw23.HeapChecks', WHERE WHAT IT READS IS OF BULK AT MOST 1048576: true; the input reads as it did. -/
def heapChecksUptoRow : OpenClaim := { program := "ytibifpboopmggaa", sum := "338b69e2502f9cc3ae7ac0e48d8af6298e7f1aa79858e6af372c4d1a8b827bef", func := "withy/withylaw23.HeapChecks", spec := "heapChecks", unfollowed := true, recurses := true, apart := false, narrowed := true }
def HeapChecksUptoSaid : Prop := heapChecksUptoRow.holds Try.pinned (OpenSpec.upto heapChecksSpec)

/-- 'withylaw23.HeapNeeds', WHERE WHAT IT READS IS OF BULK AT MOST 1048576: true; the input reads as it did. -/
def heapNeedsUptoRow : OpenClaim := { program := "ytibifpboopmggaa", sum := "338b69e2502f9cc3ae7ac0e48d8af6298e7f1aa79858e6af372c4d1a8b827bef", func := "withy/withylaw23.HeapNeeds", spec := "heapNeeds", unfollowed := true, recurses := true, apart := false, narrowed := true }
def HeapNeedsUptoSaid : Prop := heapNeedsUptoRow.holds Try.pinned (OpenSpec.upto heapNeedsSpec)

/-- 'withylaw20.IterAgain', WHERE WHAT IT READS IS OF BULK AT MOST 1048576: true; the input reads as it did. -/
def iterAgainUptoRow : OpenClaim := { program := "ytibifpboopmggaa", sum := "338b69e2502f9cc3ae7ac0e48d8af6298e7f1aa79858e6af372c4d1a8b827bef", func := "withy/withylaw20.IterAgain", spec := "iterAgain", apart := false, narrowed := true }
def IterAgainUptoSaid : Prop := iterAgainUptoRow.holds Try.pinned (OpenSpec.upto iterAgainSpec)

/-- 'withylaw20.IterLone', WHERE WHAT IT READS IS OF BULK AT MOST 1048576: true; the input reads as it did. -/
def iterLoneUptoRow : OpenClaim := { program := "ytibifpboopmggaa", sum := "338b69e2502f9cc3ae7ac0e48d8af6298e7f1aa79858e6af372c4d1a8b827bef", func := "withy/withylaw20.IterLone", spec := "iterLone", apart := false, narrowed := true }
def IterLoneUptoSaid : Prop := iterLoneUptoRow.holds Try.pinned (OpenSpec.upto iterLoneSpec)

/-- 'withylaw20.IterWalks', WHERE WHAT IT READS IS OF BULK AT MOST 1048576: true; the input reads as it did. -/
def iterWalksUptoRow : OpenClaim := { program := "ytibifpboopmggaa", sum := "338b69e2502f9cc3ae7ac0e48d8af6298e7f1aa79858e6af372c4d1a8b827bef", func := "withy/withylaw20.IterWalks", spec := "iterWalks", apart := false, narrowed := true }
def IterWalksUptoSaid : Prop := iterWalksUptoRow.holds Try.pinned (OpenSpec.upto iterWalksSpec)

/-- 'withylaw20.IterSteps', WHERE WHAT IT READS IS OF BULK AT MOST 1048576: true; the input reads as it did. -/
def iterStepsUptoRow : OpenClaim := { program := "ytibifpboopmggaa", sum := "338b69e2502f9cc3ae7ac0e48d8af6298e7f1aa79858e6af372c4d1a8b827bef", func := "withy/withylaw20.IterSteps", spec := "iterSteps", apart := false, narrowed := true }
def IterStepsUptoSaid : Prop := iterStepsUptoRow.holds Try.pinned (OpenSpec.upto iterStepsSpec)

/-- 'withylaw14.SweepSweeps', WHERE WHAT IT READS IS OF BULK AT MOST 1048576: true; the input reads as it did. -/
def sweepSweepsUptoRow : OpenClaim := { program := "ytibifpboopmggaa", sum := "338b69e2502f9cc3ae7ac0e48d8af6298e7f1aa79858e6af372c4d1a8b827bef", func := "withy/withylaw14.SweepSweeps", spec := "sweepSweeps", unfollowed := true, recurses := true, apart := false, narrowed := true }
def SweepSweepsUptoSaid : Prop := sweepSweepsUptoRow.holds Try.pinned (OpenSpec.upto sweepSweepsSpec)

/-- 'withylaw14.SweepReclaims', WHERE WHAT IT READS IS OF BULK AT MOST 1048576: true; the input reads as it did. -/
def sweepReclaimsUptoRow : OpenClaim := { program := "ytibifpboopmggaa", sum := "338b69e2502f9cc3ae7ac0e48d8af6298e7f1aa79858e6af372c4d1a8b827bef", func := "withy/withylaw14.SweepReclaims", spec := "sweepReclaims", unfollowed := true, recurses := true, apart := false, narrowed := true }
def SweepReclaimsUptoSaid : Prop := sweepReclaimsUptoRow.holds Try.pinned (OpenSpec.upto sweepReclaimsSpec)

/-- 'withylaw14.SweepBoth', WHERE WHAT IT READS IS OF BULK AT MOST 1048576: true; the input reads as it did. -/
def sweepBothUptoRow : OpenClaim := { program := "ytibifpboopmggaa", sum := "338b69e2502f9cc3ae7ac0e48d8af6298e7f1aa79858e6af372c4d1a8b827bef", func := "withy/withylaw14.SweepBoth", spec := "sweepBoth", unfollowed := true, recurses := true, apart := false, narrowed := true }
def SweepBothUptoSaid : Prop := sweepBothUptoRow.holds Try.pinned (OpenSpec.upto sweepBothSpec)

/-- 'withylaw14.SweepShades', WHERE WHAT IT READS IS OF BULK AT MOST 1048576: true; the input reads as it did. -/
def sweepShadesUptoRow : OpenClaim := { program := "ytibifpboopmggaa", sum := "338b69e2502f9cc3ae7ac0e48d8af6298e7f1aa79858e6af372c4d1a8b827bef", func := "withy/withylaw14.SweepShades", spec := "sweepShades", unfollowed := true, recurses := true, apart := false, narrowed := true }
def SweepShadesUptoSaid : Prop := sweepShadesUptoRow.holds Try.pinned (OpenSpec.upto sweepShadesSpec)

/-- 'withylaw19.LinReplays', WHERE WHAT IT READS IS OF BULK AT MOST 1048576: true; the input reads as it did. -/
def linReplaysUptoRow : OpenClaim := { program := "ytibifpboopmggaa", sum := "338b69e2502f9cc3ae7ac0e48d8af6298e7f1aa79858e6af372c4d1a8b827bef", func := "withy/withylaw19.LinReplays", spec := "linReplays", inPlace := ["maps.clone"], unfollowed := true, recurses := true, apart := false, narrowed := true }
def LinReplaysUptoSaid : Prop := linReplaysUptoRow.holds Try.pinned (OpenSpec.upto linReplaysSpec)

/-- 'withylaw19.LinSearches', WHERE WHAT IT READS IS OF BULK AT MOST 1048576: true; the input reads as it did. -/
def linSearchesUptoRow : OpenClaim := { program := "ytibifpboopmggaa", sum := "338b69e2502f9cc3ae7ac0e48d8af6298e7f1aa79858e6af372c4d1a8b827bef", func := "withy/withylaw19.LinSearches", spec := "linSearches", inPlace := ["maps.clone"], unfollowed := true, recurses := true, apart := false, narrowed := true }
def LinSearchesUptoSaid : Prop := linSearchesUptoRow.holds Try.pinned (OpenSpec.upto linSearchesSpec)

end Rows
end Go.Proofs.Ytibifpboopmggaa
