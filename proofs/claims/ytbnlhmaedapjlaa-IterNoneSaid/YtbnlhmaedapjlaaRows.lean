/-
  No cell of these rows narrows 'for every input' (looked for: loops, veiled, ifaces, maps, wideKeys, modest, calm, conditions, laid).
  DERIVED. THE GIVEN ROWS OF THIS SEAT. 6 by the template 'for every input the law returns true; each argument reads behind the call as it read before'; 0 by the template 'total and deterministic' (their statements: YtbnlhmaedapjlaaTotals.lean).
  GIVEN WITH THE SEED: the statements are not yours to turn. If you find one false, say at which input.
  Laid BY PROGRAM, IN A SANDBOX (cutbox-rows.mjs): the forced cells as the released guide's own fill.sh prints them over the translation 9996ecd819e538e8… (all of the seat's roots in one cut). By AI agents, Wed Nov 11 2026. No macro, syntax, notation, axiom, sorry.
-/
import Derived.Test.YtbnlhmaedapjlaaChecked
import GoSem.Claim
import GoSem.ClaimJoined
import GoSem.ClaimMapViews
import Derived.JoinedTies
import Derived.KernelRfl
namespace Go.Proofs.Ytbnlhmaedapjlaa
/- THE CELL 'sum', in the pinned program and in every row, IS THE sha256 OF THE DUMP (.gsa) THAT YtbnlhmaedapjlaaProg.lean LOADS. Nothing in Lean hashes anything: it is a label: what it is worth is what the hold of that sum in a sandbox is worth. -/
noncomputable def Try.pinned : Pinned := { name := "ytbnlhmaedapjlaa", sum := "9996ecd819e538e82efece8b463380009524b02e018f87212a415892c7238654", checked := Try.checked }
namespace Rows
def none {H : Type} : Left H := { results := [], args := [] }

/-- 'withylaw10.FieldNone': WHATEVER THE INPUT: true; the input reads as it did. -/
def fieldNoneSpec : ChangeSpec := { name := "fieldNone", fn := fun _ => fun
  | [d1, d2, d3, d4, d5] => { results := [.lit (.bool true)], args := [d1, d2, d3, d4, d5] }
  | _ => none }
def fieldNoneRow : OpenClaim := { program := "ytbnlhmaedapjlaa", sum := "9996ecd819e538e82efece8b463380009524b02e018f87212a415892c7238654", func := "withy/withylaw10.FieldNone", spec := "fieldNone", apart := false }
def FieldNoneSaid : Prop := fieldNoneRow.holds Try.pinned (OpenSpec.ofChange fieldNoneSpec)

/-- ITS FALSE NEIGHBOUR: 'it returns false'. Refute it at one input. -/
def fieldNoneWrong : ChangeSpec := { name := "fieldNone", fn := fun _ => fun
  | [d1, d2, d3, d4, d5] => { results := [.lit (.bool false)], args := [d1, d2, d3, d4, d5] }
  | _ => none }
def FieldNoneWrongFalsely : Prop := fieldNoneRow.holds Try.pinned (OpenSpec.ofChange fieldNoneWrong)

/-- 'withylaw13.MarkNone': WHATEVER THE INPUT: true; the input reads as it did. -/
def markNoneSpec : ChangeSpec := { name := "markNone", fn := fun _ => fun
  | [d1, d2] => { results := [.lit (.bool true)], args := [d1, d2] }
  | _ => none }
def markNoneRow : OpenClaim := { program := "ytbnlhmaedapjlaa", sum := "9996ecd819e538e82efece8b463380009524b02e018f87212a415892c7238654", func := "withy/withylaw13.MarkNone", spec := "markNone", unfollowed := true, recurses := true, apart := false }
def MarkNoneSaid : Prop := markNoneRow.holds Try.pinned (OpenSpec.ofChange markNoneSpec)

/-- ITS FALSE NEIGHBOUR: 'it returns false'. Refute it at one input. -/
def markNoneWrong : ChangeSpec := { name := "markNone", fn := fun _ => fun
  | [d1, d2] => { results := [.lit (.bool false)], args := [d1, d2] }
  | _ => none }
def MarkNoneWrongFalsely : Prop := markNoneRow.holds Try.pinned (OpenSpec.ofChange markNoneWrong)

/-- 'withylaw20.IterNone': WHATEVER THE INPUT: true; the input reads as it did. -/
def iterNoneSpec : ChangeSpec := { name := "iterNone", fn := fun _ => fun
  | [d1, d2, d3] => { results := [.lit (.bool true)], args := [d1, d2, d3] }
  | _ => none }
def iterNoneRow : OpenClaim := { program := "ytbnlhmaedapjlaa", sum := "9996ecd819e538e82efece8b463380009524b02e018f87212a415892c7238654", func := "withy/withylaw20.IterNone", spec := "iterNone", apart := false }
def IterNoneSaid : Prop := iterNoneRow.holds Try.pinned (OpenSpec.ofChange iterNoneSpec)

/-- ITS FALSE NEIGHBOUR: 'it returns false'. Refute it at one input. -/
def iterNoneWrong : ChangeSpec := { name := "iterNone", fn := fun _ => fun
  | [d1, d2, d3] => { results := [.lit (.bool false)], args := [d1, d2, d3] }
  | _ => none }
def IterNoneWrongFalsely : Prop := iterNoneRow.holds Try.pinned (OpenSpec.ofChange iterNoneWrong)

/-- 'withylaw14.SweepNone': WHATEVER THE INPUT: true; the input reads as it did. -/
def sweepNoneSpec : ChangeSpec := { name := "sweepNone", fn := fun _ => fun
  | [d1, d2] => { results := [.lit (.bool true)], args := [d1, d2] }
  | _ => none }
def sweepNoneRow : OpenClaim := { program := "ytbnlhmaedapjlaa", sum := "9996ecd819e538e82efece8b463380009524b02e018f87212a415892c7238654", func := "withy/withylaw14.SweepNone", spec := "sweepNone", unfollowed := true, recurses := true, apart := false }
def SweepNoneSaid : Prop := sweepNoneRow.holds Try.pinned (OpenSpec.ofChange sweepNoneSpec)

/-- ITS FALSE NEIGHBOUR: 'it returns false'. Refute it at one input. -/
def sweepNoneWrong : ChangeSpec := { name := "sweepNone", fn := fun _ => fun
  | [d1, d2] => { results := [.lit (.bool false)], args := [d1, d2] }
  | _ => none }
def SweepNoneWrongFalsely : Prop := sweepNoneRow.holds Try.pinned (OpenSpec.ofChange sweepNoneWrong)

/-- 'withylaw15.CollectBounds': WHATEVER THE INPUT: true; the input reads as it did. -/
def collectBoundsSpec : ChangeSpec := { name := "collectBounds", fn := fun _ => fun
  | [d] => { results := [.lit (.bool true)], args := [d] }
  | _ => none }
def collectBoundsRow : OpenClaim := { program := "ytbnlhmaedapjlaa", sum := "9996ecd819e538e82efece8b463380009524b02e018f87212a415892c7238654", func := "withy/withylaw15.CollectBounds", spec := "collectBounds", unfollowed := true, recurses := true, apart := false }
def CollectBoundsSaid : Prop := collectBoundsRow.holds Try.pinned (OpenSpec.ofChange collectBoundsSpec)

/-- ITS FALSE NEIGHBOUR: 'it returns false'. Refute it at one input. -/
def collectBoundsWrong : ChangeSpec := { name := "collectBounds", fn := fun _ => fun
  | [d] => { results := [.lit (.bool false)], args := [d] }
  | _ => none }
def CollectBoundsWrongFalsely : Prop := collectBoundsRow.holds Try.pinned (OpenSpec.ofChange collectBoundsWrong)

/-- 'withylaw15.CollectNone': WHATEVER THE INPUT: true; the input reads as it did. -/
def collectNoneSpec : ChangeSpec := { name := "collectNone", fn := fun _ => fun
  | [d] => { results := [.lit (.bool true)], args := [d] }
  | _ => none }
def collectNoneRow : OpenClaim := { program := "ytbnlhmaedapjlaa", sum := "9996ecd819e538e82efece8b463380009524b02e018f87212a415892c7238654", func := "withy/withylaw15.CollectNone", spec := "collectNone", unfollowed := true, recurses := true, apart := false }
def CollectNoneSaid : Prop := collectNoneRow.holds Try.pinned (OpenSpec.ofChange collectNoneSpec)

/-- ITS FALSE NEIGHBOUR: 'it returns false'. Refute it at one input. -/
def collectNoneWrong : ChangeSpec := { name := "collectNone", fn := fun _ => fun
  | [d] => { results := [.lit (.bool false)], args := [d] }
  | _ => none }
def CollectNoneWrongFalsely : Prop := collectNoneRow.holds Try.pinned (OpenSpec.ofChange collectNoneWrong)

/- THE SECOND FORM. 'bulk': how many values and letters a reading holds, each counted each time it is reached (what is shared counts as often as it is met; a slice's spare places count too). A statement '..UptoSaid' is the law's where the arguments, and the package variables that the reading takes, are together of bulk at most 1048576: NARROWER than '..Said'. Prove '..Said' where nothing that the law and all that it calls make is longer than what came in: it says more and counts as full. Else prove '..UptoSaid'. A law counts once. -/
mutual
def uptoBulk {H : Type} : DataW H → Nat
  | .lit (.string bytes) => bytes.length + 1
  | .lit _ => 1
  | .nil => 1
  | .ptr d => uptoBulk d + 1
  | .slice elems spare => uptoBulkAll elems + uptoBulkAll spare + 1
  | .agg parts => uptoBulkAll parts + 1
  | .iface _ d => uptoBulk d + 1
  | .map entries => uptoBulkEntries entries + 1
  | .held _ => 1
def uptoBulkAll {H : Type} : List (DataW H) → Nat
  | [] => 0
  | d :: r => uptoBulk d + uptoBulkAll r
def uptoBulkEntries {H : Type} : List (Lit × DataW H) → Nat
  | [] => 0
  | x :: r => uptoBulkEntry x + uptoBulkEntries r
def uptoBulkEntry {H : Type} : Lit × DataW H → Nat
  | (.string bytes, d) => bytes.length + uptoBulk d + 1
  | (_, d) => uptoBulk d + 1
 end
def uptoSmall : (H : Type) → List (DataW H) → Bool := fun _ ds => decide (uptoBulkAll ds ≤ 1048576)
def OpenSpec.upto (s : _root_.Go.ChangeSpec) : _root_.Go.OpenSpec := { _root_.Go.OpenSpec.ofChange s with cond := some uptoSmall }

/-- 'withylaw10.FieldNone', WHERE WHAT IT READS IS OF BULK AT MOST 1048576: true; the input reads as it did. -/
def fieldNoneUptoRow : OpenClaim := { program := "ytbnlhmaedapjlaa", sum := "9996ecd819e538e82efece8b463380009524b02e018f87212a415892c7238654", func := "withy/withylaw10.FieldNone", spec := "fieldNone", apart := false, narrowed := true }
def FieldNoneUptoSaid : Prop := fieldNoneUptoRow.holds Try.pinned (OpenSpec.upto fieldNoneSpec)

/-- 'withylaw13.MarkNone', WHERE WHAT IT READS IS OF BULK AT MOST 1048576: true; the input reads as it did. -/
def markNoneUptoRow : OpenClaim := { program := "ytbnlhmaedapjlaa", sum := "9996ecd819e538e82efece8b463380009524b02e018f87212a415892c7238654", func := "withy/withylaw13.MarkNone", spec := "markNone", unfollowed := true, recurses := true, apart := false, narrowed := true }
def MarkNoneUptoSaid : Prop := markNoneUptoRow.holds Try.pinned (OpenSpec.upto markNoneSpec)

/-- 'withylaw20.IterNone', WHERE WHAT IT READS IS OF BULK AT MOST 1048576: true; the input reads as it did. -/
def iterNoneUptoRow : OpenClaim := { program := "ytbnlhmaedapjlaa", sum := "9996ecd819e538e82efece8b463380009524b02e018f87212a415892c7238654", func := "withy/withylaw20.IterNone", spec := "iterNone", apart := false, narrowed := true }
def IterNoneUptoSaid : Prop := iterNoneUptoRow.holds Try.pinned (OpenSpec.upto iterNoneSpec)

/-- 'withylaw14.SweepNone', WHERE WHAT IT READS IS OF BULK AT MOST 1048576: true; the input reads as it did. -/
def sweepNoneUptoRow : OpenClaim := { program := "ytbnlhmaedapjlaa", sum := "9996ecd819e538e82efece8b463380009524b02e018f87212a415892c7238654", func := "withy/withylaw14.SweepNone", spec := "sweepNone", unfollowed := true, recurses := true, apart := false, narrowed := true }
def SweepNoneUptoSaid : Prop := sweepNoneUptoRow.holds Try.pinned (OpenSpec.upto sweepNoneSpec)

/-- 'withylaw15.CollectBounds', WHERE WHAT IT READS IS OF BULK AT MOST 1048576: true; the input reads as it did. -/
def collectBoundsUptoRow : OpenClaim := { program := "ytbnlhmaedapjlaa", sum := "9996ecd819e538e82efece8b463380009524b02e018f87212a415892c7238654", func := "withy/withylaw15.CollectBounds", spec := "collectBounds", unfollowed := true, recurses := true, apart := false, narrowed := true }
def CollectBoundsUptoSaid : Prop := collectBoundsUptoRow.holds Try.pinned (OpenSpec.upto collectBoundsSpec)

/-- 'withylaw15.CollectNone', WHERE WHAT IT READS IS OF BULK AT MOST 1048576: true; the input reads as it did. -/
def collectNoneUptoRow : OpenClaim := { program := "ytbnlhmaedapjlaa", sum := "9996ecd819e538e82efece8b463380009524b02e018f87212a415892c7238654", func := "withy/withylaw15.CollectNone", spec := "collectNone", unfollowed := true, recurses := true, apart := false, narrowed := true }
def CollectNoneUptoSaid : Prop := collectNoneUptoRow.holds Try.pinned (OpenSpec.upto collectNoneSpec)

end Rows
end Go.Proofs.Ytbnlhmaedapjlaa
