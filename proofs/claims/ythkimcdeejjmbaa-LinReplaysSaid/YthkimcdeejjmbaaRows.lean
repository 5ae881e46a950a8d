/-
  No cell of these rows narrows 'for every input' (looked for: loops, veiled, ifaces, maps, wideKeys, modest, calm, conditions, laid).
  DERIVED. THE GIVEN ROWS OF THIS SEAT. 11 by the template 'for every input the law returns true; each argument reads behind the call as it read before'; 0 by the template 'total and deterministic' (their statements: YthkimcdeejjmbaaTotals.lean).
  GIVEN WITH THE SEED: the statements are not yours to turn. If you find one false, say at which input.
  Laid BY PROGRAM, IN A SANDBOX (cutbox-rows.mjs): the forced cells as the released guide's own fill.sh prints them over the translation bab3ad42ea30f193… (all of the seat's roots in one cut). By AI agents, Wed Nov 11 2026. No macro, syntax, notation, axiom, sorry.
-/
import Derived.Test.YthkimcdeejjmbaaChecked
import GoSem.Claim
import GoSem.ClaimJoined
import GoSem.ClaimMapViews
import Derived.JoinedTies
import Derived.KernelRfl
namespace Go.Proofs.Ythkimcdeejjmbaa
/- THE CELL 'sum', in the pinned program and in every row, IS THE sha256 OF THE DUMP (.gsa) THAT YthkimcdeejjmbaaProg.lean LOADS. Nothing in Lean hashes anything: it is a label: what it is worth is what the hold of that sum in a sandbox is worth. -/
noncomputable def Try.pinned : Pinned := { name := "ythkimcdeejjmbaa", sum := "bab3ad42ea30f19369a78b5cbce7c0f515722558b5166b9fe3c13a167bcea882", checked := Try.checked }
namespace Rows
def none {H : Type} : Left H := { results := [], args := [] }

/-- 'withylaw17.ModelCopies': WHATEVER THE INPUT: true; the input reads as it did. -/
def modelCopiesSpec : ChangeSpec := { name := "modelCopies", fn := fun _ => fun
  | [d1, d2, d3] => { results := [.lit (.bool true)], args := [d1, d2, d3] }
  | _ => none }
def modelCopiesRow : OpenClaim := { program := "ythkimcdeejjmbaa", sum := "bab3ad42ea30f19369a78b5cbce7c0f515722558b5166b9fe3c13a167bcea882", func := "withy/withylaw17.ModelCopies", spec := "modelCopies", inPlace := ["maps.clone"], apart := false }
def ModelCopiesSaid : Prop := modelCopiesRow.holds Try.pinned (OpenSpec.ofChange modelCopiesSpec)

/-- ITS FALSE NEIGHBOUR: 'it returns false'. Refute it at one input. -/
def modelCopiesWrong : ChangeSpec := { name := "modelCopies", fn := fun _ => fun
  | [d1, d2, d3] => { results := [.lit (.bool false)], args := [d1, d2, d3] }
  | _ => none }
def ModelCopiesWrongFalsely : Prop := modelCopiesRow.holds Try.pinned (OpenSpec.ofChange modelCopiesWrong)

/-- 'withylaw20.IterAgain': WHATEVER THE INPUT: true; the input reads as it did. -/
def iterAgainSpec : ChangeSpec := { name := "iterAgain", fn := fun _ => fun
  | [d1, d2, d3] => { results := [.lit (.bool true)], args := [d1, d2, d3] }
  | _ => none }
def iterAgainRow : OpenClaim := { program := "ythkimcdeejjmbaa", sum := "bab3ad42ea30f19369a78b5cbce7c0f515722558b5166b9fe3c13a167bcea882", func := "withy/withylaw20.IterAgain", spec := "iterAgain", apart := false }
def IterAgainSaid : Prop := iterAgainRow.holds Try.pinned (OpenSpec.ofChange iterAgainSpec)

/-- ITS FALSE NEIGHBOUR: 'it returns false'. Refute it at one input. -/
def iterAgainWrong : ChangeSpec := { name := "iterAgain", fn := fun _ => fun
  | [d1, d2, d3] => { results := [.lit (.bool false)], args := [d1, d2, d3] }
  | _ => none }
def IterAgainWrongFalsely : Prop := iterAgainRow.holds Try.pinned (OpenSpec.ofChange iterAgainWrong)

/-- 'withylaw20.IterLone': WHATEVER THE INPUT: true; the input reads as it did. -/
def iterLoneSpec : ChangeSpec := { name := "iterLone", fn := fun _ => fun
  | [d1, d2, d3] => { results := [.lit (.bool true)], args := [d1, d2, d3] }
  | _ => none }
def iterLoneRow : OpenClaim := { program := "ythkimcdeejjmbaa", sum := "bab3ad42ea30f19369a78b5cbce7c0f515722558b5166b9fe3c13a167bcea882", func := "withy/withylaw20.IterLone", spec := "iterLone", apart := false }
def IterLoneSaid : Prop := iterLoneRow.holds Try.pinned (OpenSpec.ofChange iterLoneSpec)

/-- ITS FALSE NEIGHBOUR: 'it returns false'. Refute it at one input. -/
def iterLoneWrong : ChangeSpec := { name := "iterLone", fn := fun _ => fun
  | [d1, d2, d3] => { results := [.lit (.bool false)], args := [d1, d2, d3] }
  | _ => none }
def IterLoneWrongFalsely : Prop := iterLoneRow.holds Try.pinned (OpenSpec.ofChange iterLoneWrong)

/-- 'withylaw20.IterWalks': WHATEVER THE INPUT: true; the input reads as it did. -/
def iterWalksSpec : ChangeSpec := { name := "iterWalks", fn := fun _ => fun
  | [d1, d2, d3, d4] => { results := [.lit (.bool true)], args := [d1, d2, d3, d4] }
  | _ => none }
def iterWalksRow : OpenClaim := { program := "ythkimcdeejjmbaa", sum := "bab3ad42ea30f19369a78b5cbce7c0f515722558b5166b9fe3c13a167bcea882", func := "withy/withylaw20.IterWalks", spec := "iterWalks", apart := false }
def IterWalksSaid : Prop := iterWalksRow.holds Try.pinned (OpenSpec.ofChange iterWalksSpec)

/-- ITS FALSE NEIGHBOUR: 'it returns false'. Refute it at one input. -/
def iterWalksWrong : ChangeSpec := { name := "iterWalks", fn := fun _ => fun
  | [d1, d2, d3, d4] => { results := [.lit (.bool false)], args := [d1, d2, d3, d4] }
  | _ => none }
def IterWalksWrongFalsely : Prop := iterWalksRow.holds Try.pinned (OpenSpec.ofChange iterWalksWrong)

/-- 'withylaw20.IterSteps': WHATEVER THE INPUT: true; the input reads as it did. -/
def iterStepsSpec : ChangeSpec := { name := "iterSteps", fn := fun _ => fun
  | [d1, d2] => { results := [.lit (.bool true)], args := [d1, d2] }
  | _ => none }
def iterStepsRow : OpenClaim := { program := "ythkimcdeejjmbaa", sum := "bab3ad42ea30f19369a78b5cbce7c0f515722558b5166b9fe3c13a167bcea882", func := "withy/withylaw20.IterSteps", spec := "iterSteps", apart := false }
def IterStepsSaid : Prop := iterStepsRow.holds Try.pinned (OpenSpec.ofChange iterStepsSpec)

/-- ITS FALSE NEIGHBOUR: 'it returns false'. Refute it at one input. -/
def iterStepsWrong : ChangeSpec := { name := "iterSteps", fn := fun _ => fun
  | [d1, d2] => { results := [.lit (.bool false)], args := [d1, d2] }
  | _ => none }
def IterStepsWrongFalsely : Prop := iterStepsRow.holds Try.pinned (OpenSpec.ofChange iterStepsWrong)

/-- 'withylaw19.LinReplays': WHATEVER THE INPUT: true; the input reads as it did. -/
def linReplaysSpec : ChangeSpec := { name := "linReplays", fn := fun _ => fun
  | [d1, d2, d3] => { results := [.lit (.bool true)], args := [d1, d2, d3] }
  | _ => none }
def linReplaysRow : OpenClaim := { program := "ythkimcdeejjmbaa", sum := "bab3ad42ea30f19369a78b5cbce7c0f515722558b5166b9fe3c13a167bcea882", func := "withy/withylaw19.LinReplays", spec := "linReplays", inPlace := ["maps.clone"], unfollowed := true, recurses := true, apart := false }
def LinReplaysSaid : Prop := linReplaysRow.holds Try.pinned (OpenSpec.ofChange linReplaysSpec)

/-- ITS FALSE NEIGHBOUR: 'it returns false'. Refute it at one input. -/
def linReplaysWrong : ChangeSpec := { name := "linReplays", fn := fun _ => fun
  | [d1, d2, d3] => { results := [.lit (.bool false)], args := [d1, d2, d3] }
  | _ => none }
def LinReplaysWrongFalsely : Prop := linReplaysRow.holds Try.pinned (OpenSpec.ofChange linReplaysWrong)

/-- 'withylaw19.LinSearches': WHATEVER THE INPUT: true; the input reads as it did. -/
def linSearchesSpec : ChangeSpec := { name := "linSearches", fn := fun _ => fun
  | [d1, d2] => { results := [.lit (.bool true)], args := [d1, d2] }
  | _ => none }
def linSearchesRow : OpenClaim := { program := "ythkimcdeejjmbaa", sum := "bab3ad42ea30f19369a78b5cbce7c0f515722558b5166b9fe3c13a167bcea882", func := "withy/withylaw19.LinSearches", spec := "linSearches", inPlace := ["maps.clone"], unfollowed := true, recurses := true, apart := false }
def LinSearchesSaid : Prop := linSearchesRow.holds Try.pinned (OpenSpec.ofChange linSearchesSpec)

/-- ITS FALSE NEIGHBOUR: 'it returns false'. Refute it at one input. -/
def linSearchesWrong : ChangeSpec := { name := "linSearches", fn := fun _ => fun
  | [d1, d2] => { results := [.lit (.bool false)], args := [d1, d2] }
  | _ => none }
def LinSearchesWrongFalsely : Prop := linSearchesRow.holds Try.pinned (OpenSpec.ofChange linSearchesWrong)

/-- 'withylaw19.LinPoints': WHATEVER THE INPUT: true; the input reads as it did. -/
def linPointsSpec : ChangeSpec := { name := "linPoints", fn := fun _ => fun
  | [d1, d2] => { results := [.lit (.bool true)], args := [d1, d2] }
  | _ => none }
def linPointsRow : OpenClaim := { program := "ythkimcdeejjmbaa", sum := "bab3ad42ea30f19369a78b5cbce7c0f515722558b5166b9fe3c13a167bcea882", func := "withy/withylaw19.LinPoints", spec := "linPoints", inPlace := ["maps.clone"], unfollowed := true, recurses := true, apart := false }
def LinPointsSaid : Prop := linPointsRow.holds Try.pinned (OpenSpec.ofChange linPointsSpec)

/-- ITS FALSE NEIGHBOUR: 'it returns false'. Refute it at one input. -/
def linPointsWrong : ChangeSpec := { name := "linPoints", fn := fun _ => fun
  | [d1, d2] => { results := [.lit (.bool false)], args := [d1, d2] }
  | _ => none }
def LinPointsWrongFalsely : Prop := linPointsRow.holds Try.pinned (OpenSpec.ofChange linPointsWrong)

/-- 'withylaw19.LinFronts': WHATEVER THE INPUT: true; the input reads as it did. -/
def linFrontsSpec : ChangeSpec := { name := "linFronts", fn := fun _ => fun
  | [d1, d2, d3, d4] => { results := [.lit (.bool true)], args := [d1, d2, d3, d4] }
  | _ => none }
def linFrontsRow : OpenClaim := { program := "ythkimcdeejjmbaa", sum := "bab3ad42ea30f19369a78b5cbce7c0f515722558b5166b9fe3c13a167bcea882", func := "withy/withylaw19.LinFronts", spec := "linFronts", inPlace := ["maps.clone"], unfollowed := true, recurses := true, apart := false }
def LinFrontsSaid : Prop := linFrontsRow.holds Try.pinned (OpenSpec.ofChange linFrontsSpec)

/-- ITS FALSE NEIGHBOUR: 'it returns false'. Refute it at one input. -/
def linFrontsWrong : ChangeSpec := { name := "linFronts", fn := fun _ => fun
  | [d1, d2, d3, d4] => { results := [.lit (.bool false)], args := [d1, d2, d3, d4] }
  | _ => none }
def LinFrontsWrongFalsely : Prop := linFrontsRow.holds Try.pinned (OpenSpec.ofChange linFrontsWrong)

/-- 'withylaw19.LinNone': WHATEVER THE INPUT: true; the input reads as it did. -/
def linNoneSpec : ChangeSpec := { name := "linNone", fn := fun _ => fun
  | [d1, d2, d3, d4] => { results := [.lit (.bool true)], args := [d1, d2, d3, d4] }
  | _ => none }
def linNoneRow : OpenClaim := { program := "ythkimcdeejjmbaa", sum := "bab3ad42ea30f19369a78b5cbce7c0f515722558b5166b9fe3c13a167bcea882", func := "withy/withylaw19.LinNone", spec := "linNone", inPlace := ["maps.clone"], unfollowed := true, recurses := true, apart := false }
def LinNoneSaid : Prop := linNoneRow.holds Try.pinned (OpenSpec.ofChange linNoneSpec)

/-- ITS FALSE NEIGHBOUR: 'it returns false'. Refute it at one input. -/
def linNoneWrong : ChangeSpec := { name := "linNone", fn := fun _ => fun
  | [d1, d2, d3, d4] => { results := [.lit (.bool false)], args := [d1, d2, d3, d4] }
  | _ => none }
def LinNoneWrongFalsely : Prop := linNoneRow.holds Try.pinned (OpenSpec.ofChange linNoneWrong)

/-- 'withylaw15.CollectStays': WHATEVER THE INPUT: true; the input reads as it did. -/
def collectStaysSpec : ChangeSpec := { name := "collectStays", fn := fun _ => fun
  | [d1, d2, d3] => { results := [.lit (.bool true)], args := [d1, d2, d3] }
  | _ => none }
def collectStaysRow : OpenClaim := { program := "ythkimcdeejjmbaa", sum := "bab3ad42ea30f19369a78b5cbce7c0f515722558b5166b9fe3c13a167bcea882", func := "withy/withylaw15.CollectStays", spec := "collectStays", unfollowed := true, recurses := true, apart := false }
def CollectStaysSaid : Prop := collectStaysRow.holds Try.pinned (OpenSpec.ofChange collectStaysSpec)

/-- ITS FALSE NEIGHBOUR: 'it returns false'. Refute it at one input. -/
def collectStaysWrong : ChangeSpec := { name := "collectStays", fn := fun _ => fun
  | [d1, d2, d3] => { results := [.lit (.bool false)], args := [d1, d2, d3] }
  | _ => none }
def CollectStaysWrongFalsely : Prop := collectStaysRow.holds Try.pinned (OpenSpec.ofChange collectStaysWrong)

/- THE SECOND FORM. 'bulk': how many values and letters a reading holds, each counted each time it is reached (what is shared counts as often as it is met; a slice's spare places count too). A statement '..UptoSaid' is the law's where the arguments, and the package variables that the reading takes, are together of bulk at most 1048576: NARROWER than '..Said'. Prove '..Said' where nothing that the law and all that it calls make is longer than what came in: it says more and counts as full. Else prove '..UptoSaid'. A law counts once. -/
mutual
def uptoBulk {H : Type} : DataW H → Nat
  | .lit (.string bytes) => bytes.length + 1
  | .lit _ => 1
  | .nil => 1
  | .ptr d => uptoBulk d + 1
  | .slice elems spare => uptoBulkAll elems + uptoBulkAll spare + 1
  | .agg parts => uptoBulkAll parts + 1
  | .iface _ d => uptoBulk d + 1
  | .map entries => uptoBulkEntries entries + 1
  | .held _ => 1
def uptoBulkAll {H : Type} : List (DataW H) → Nat
  | [] => 0
  | d :: r => uptoBulk d + uptoBulkAll r
def uptoBulkEntries {H : Type} : List (Lit × DataW H) → Nat
  | [] => 0
  | x :: r => uptoBulkEntry x + uptoBulkEntries r
def uptoBulkEntry {H : Type} : Lit × DataW H → Nat
  | (.string bytes, d) => bytes.length + uptoBulk d + 1
  | (_, d) => uptoBulk d + 1
 end
def uptoSmall : (H : Type) → List (DataW H) → Bool := fun _ ds => decide (uptoBulkAll ds ≤ 1048576)
def OpenSpec.upto (s : _root_.Go.ChangeSpec) : _root_.Go.OpenSpec := { _root_.Go.OpenSpec.ofChange s with cond := some uptoSmall }

/-- 'withylaw17.ModelCopies', WHERE WHAT IT READS IS OF BULK AT MOST 1048576: true; the input reads as it did. -/
def modelCopiesUptoRow : OpenClaim := { program := "ythkimcdeejjmbaa", sum := "bab3ad42ea30f19369a78b5cbce7c0f515722558b5166b9fe3c13a167bcea882", func := "withy/withylaw17.ModelCopies", spec := "modelCopies", inPlace := ["maps.clone"], apart := false, narrowed := true }
def ModelCopiesUptoSaid : Prop := modelCopiesUptoRow.holds Try.pinned (OpenSpec.upto modelCopiesSpec)

/-- 'withylaw20.IterAgain', WHERE WHAT IT READS IS OF BULK AT MOST 1048576: true; the input reads as it did. -/
def iterAgainUptoRow : OpenClaim := { program := "ythkimcdeejjmbaa", sum := "bab3ad42ea30f19369a78b5cbce7c0f515722558b5166b9fe3c13a167bcea882", func := "withy/withylaw20.IterAgain", spec := "iterAgain", apart := false, narrowed := true }
def IterAgainUptoSaid : Prop := iterAgainUptoRow.holds Try.pinned (OpenSpec.upto iterAgainSpec)

/-- 'withylaw20.IterLone', WHERE WHAT IT READS IS OF BULK AT MOST 1048576: true; the input reads as it did. -/
def iterLoneUptoRow : OpenClaim := { program := "ythkimcdeejjmbaa", sum := "bab3ad42ea30f19369a78b5cbce7c0f515722558b5166b9fe3c13a167bcea882", func := "withy/withylaw20.IterLone", spec := "iterLone", apart := false, narrowed := true }
def IterLoneUptoSaid : Prop := iterLoneUptoRow.holds Try.pinned (OpenSpec.upto iterLoneSpec)

/-- 'withylaw20.IterWalks', WHERE WHAT IT READS IS OF BULK AT MOST 1048576: true; the input reads as it did. -/
def iterWalksUptoRow : OpenClaim := { program := "ythkimcdeejjmbaa", sum := "bab3ad42ea30f19369a78b5cbce7c0f515722558b5166b9fe3c13a167bcea882", func := "withy/withylaw20.IterWalks", spec := "iterWalks", apart := false, narrowed := true }
def IterWalksUptoSaid : Prop := iterWalksUptoRow.holds Try.pinned (OpenSpec.upto iterWalksSpec)

/-- 'withylaw20.IterSteps', WHERE WHAT IT READS IS OF BULK AT MOST 1048576: true; the input reads as it did. -/
def iterStepsUptoRow : OpenClaim := { program := "ythkimcdeejjmbaa", sum := "bab3ad42ea30f19369a78b5cbce7c0f515722558b5166b9fe3c13a167bcea882", func := "withy/withylaw20.IterSteps", spec := "iterSteps", apart := false, narrowed := true }
def IterStepsUptoSaid : Prop := iterStepsUptoRow.holds Try.pinned (OpenSpec.upto iterStepsSpec)

/-- 'withylaw19.LinReplays', WHERE WHAT IT READS IS OF BULK AT MOST 1048576: true; the input reads as it did. -/
def linReplaysUptoRow : OpenClaim := { program := "ythkimcdeejjmbaa", sum := "bab3ad42ea30f19369a78b5cbce7c0f515722558b5166b9fe3c13a167bcea882", func := "withy/withylaw19.LinReplays", spec := "linReplays", inPlace := ["maps.clone"], unfollowed := true, recurses := true, apart := false, narrowed := true }
def LinReplaysUptoSaid : Prop := linReplaysUptoRow.holds Try.pinned (OpenSpec.upto linReplaysSpec)

/-- 'withylaw19.LinSearches', WHERE WHAT IT READS IS OF BULK AT MOST 1048576: true; the input reads as it did. -/
def linSearchesUptoRow : OpenClaim := { program := "ythkimcdeejjmbaa", sum := "bab3ad42ea30f19369a78b5cbce7c0f515722558b5166b9fe3c13a167bcea882", func := "withy/withylaw19.LinSearches", spec := "linSearches", inPlace := ["maps.clone"], unfollowed := true, recurses := true, apart := false, narrowed := true }
def LinSearchesUptoSaid : Prop := linSearchesUptoRow.holds Try.pinned (OpenSpec.upto linSearchesSpec)

/-- 'withylaw19.LinPoints', WHERE WHAT IT READS IS OF BULK AT MOST 1048576: true; the input reads as it did. -/
def linPointsUptoRow : OpenClaim := { program := "ythkimcdeejjmbaa", sum := "bab3ad42ea30f19369a78b5cbce7c0f515722558b5166b9fe3c13a167bcea882", func := "withy/withylaw19.LinPoints", spec := "linPoints", inPlace := ["maps.clone"], unfollowed := true, recurses := true, apart := false, narrowed := true }
def LinPointsUptoSaid : Prop := linPointsUptoRow.holds Try.pinned (OpenSpec.upto linPointsSpec)

/-- 'withylaw19.LinFronts', WHERE WHAT IT READS IS OF BULK AT MOST 1048576: true; the input reads as it did. -/
def linFrontsUptoRow : OpenClaim := { program := "ythkimcdeejjmbaa", sum := "bab3ad42ea30f19369a78b5cbce7c0f515722558b5166b9fe3c13a167bcea882", func := "withy/withylaw19.LinFronts", spec := "linFronts", inPlace := ["maps.clone"], unfollowed := true, recurses := true, apart := false, narrowed := true }
def LinFrontsUptoSaid : Prop := linFrontsUptoRow.holds Try.pinned (OpenSpec.upto linFrontsSpec)

/-- 'withylaw19.LinNone', WHERE WHAT IT READS IS OF BULK AT MOST 1048576: true; the input reads as it did. -/
def linNoneUptoRow : OpenClaim := { program := "ythkimcdeejjmbaa", sum := "bab3ad42ea30f19369a78b5cbce7c0f515722558b5166b9fe3c13a167bcea882", func := "withy/withylaw19.LinNone", spec := "linNone", inPlace := ["maps.clone"], unfollowed := true, recurses := true, apart := false, narrowed := true }
def LinNoneUptoSaid : Prop := linNoneUptoRow.holds Try.pinned (OpenSpec.upto linNoneSpec)

/-- 'withylaw15.CollectStays', WHERE WHAT IT READS IS OF BULK AT MOST 1048576: true; the input reads as it did. -/
def collectStaysUptoRow : OpenClaim := { program := "ythkimcdeejjmbaa", sum := "bab3ad42ea30f19369a78b5cbce7c0f515722558b5166b9fe3c13a167bcea882", func := "withy/withylaw15.CollectStays", spec := "collectStays", unfollowed := true, recurses := true, apart := false, narrowed := true }
def CollectStaysUptoSaid : Prop := collectStaysUptoRow.holds Try.pinned (OpenSpec.upto collectStaysSpec)

end Rows
end Go.Proofs.Ythkimcdeejjmbaa
