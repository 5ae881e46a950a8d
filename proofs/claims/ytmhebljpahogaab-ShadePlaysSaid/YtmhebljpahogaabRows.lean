/-
  No cell of these rows narrows 'for every input' (looked for: loops, veiled, ifaces, maps, wideKeys, modest, calm, conditions, laid).
  DERIVED. THE GIVEN ROWS OF THIS SEAT. 6 by the template 'for every input the law returns true; each argument reads behind the call as it read before'; 0 by the template 'total and deterministic' (their statements: YtmhebljpahogaabTotals.lean).
  GIVEN WITH THE SEED: the statements are not yours to turn. If you find one false, say at which input.
  Laid BY PROGRAM, IN A SANDBOX (cutbox-rows.mjs): the forced cells as the released guide's own fill.sh prints them over the translation 0b05771357f29956… (all of the seat's roots in one cut). By AI agents, Wed Nov 11 2026. No macro, syntax, notation, axiom, sorry.
-/
import Derived.Test.YtmhebljpahogaabChecked
import GoSem.Claim
import GoSem.ClaimJoined
import GoSem.ClaimMapViews
import Derived.JoinedTies
import Derived.KernelRfl
namespace Go.Proofs.Ytmhebljpahogaab
/- THE CELL 'sum', in the pinned program and in every row, IS THE sha256 OF THE DUMP (.gsa) THAT YtmhebljpahogaabProg.lean LOADS. Nothing in Lean hashes anything: it is a label: what it is worth is what the hold of that sum in a sandbox is worth. -/
noncomputable def Try.pinned : Pinned := { name := "ytmhebljpahogaab", sum := "0b05771357f29956a750d1f68d1f2a3078b1e3c73fd42effef4a4d22a1de1e01", checked := Try.checked }
namespace Rows
def none {H : Type} : Left H := { results := [], args := [] }

/-- 'withylaw09.ShadePlays': WHATEVER THE INPUT: true; the input reads as it did. -/
def shadePlaysSpec : ChangeSpec := { name := "shadePlays", fn := fun _ => fun
  | [d1, d2, d3, d4, d5] => { results := [.lit (.bool true)], args := [d1, d2, d3, d4, d5] }
  | _ => none }
def shadePlaysRow : OpenClaim := { program := "ytmhebljpahogaab", sum := "0b05771357f29956a750d1f68d1f2a3078b1e3c73fd42effef4a4d22a1de1e01", func := "withy/withylaw09.ShadePlays", spec := "shadePlays", apart := false }
def ShadePlaysSaid : Prop := shadePlaysRow.holds Try.pinned (OpenSpec.ofChange shadePlaysSpec)

/-- ITS FALSE NEIGHBOUR: 'it returns false'. Refute it at one input. -/
def shadePlaysWrong : ChangeSpec := { name := "shadePlays", fn := fun _ => fun
  | [d1, d2, d3, d4, d5] => { results := [.lit (.bool false)], args := [d1, d2, d3, d4, d5] }
  | _ => none }
def ShadePlaysWrongFalsely : Prop := shadePlaysRow.holds Try.pinned (OpenSpec.ofChange shadePlaysWrong)

/-- 'withylaw09.ShadeAlone': WHATEVER THE INPUT: true; the input reads as it did. -/
def shadeAloneSpec : ChangeSpec := { name := "shadeAlone", fn := fun _ => fun
  | [d1, d2, d3, d4] => { results := [.lit (.bool true)], args := [d1, d2, d3, d4] }
  | _ => none }
def shadeAloneRow : OpenClaim := { program := "ytmhebljpahogaab", sum := "0b05771357f29956a750d1f68d1f2a3078b1e3c73fd42effef4a4d22a1de1e01", func := "withy/withylaw09.ShadeAlone", spec := "shadeAlone", apart := false }
def ShadeAloneSaid : Prop := shadeAloneRow.holds Try.pinned (OpenSpec.ofChange shadeAloneSpec)

/-- ITS FALSE NEIGHBOUR: 'it returns false'. Refute it at one input. -/
def shadeAloneWrong : ChangeSpec := { name := "shadeAlone", fn := fun _ => fun
  | [d1, d2, d3, d4] => { results := [.lit (.bool false)], args := [d1, d2, d3, d4] }
  | _ => none }
def ShadeAloneWrongFalsely : Prop := shadeAloneRow.holds Try.pinned (OpenSpec.ofChange shadeAloneWrong)

/-- 'withylaw17.ModelCopies': WHATEVER THE INPUT: true; the input reads as it did. -/
def modelCopiesSpec : ChangeSpec := { name := "modelCopies", fn := fun _ => fun
  | [d1, d2, d3] => { results := [.lit (.bool true)], args := [d1, d2, d3] }
  | _ => none }
def modelCopiesRow : OpenClaim := { program := "ytmhebljpahogaab", sum := "0b05771357f29956a750d1f68d1f2a3078b1e3c73fd42effef4a4d22a1de1e01", func := "withy/withylaw17.ModelCopies", spec := "modelCopies", inPlace := ["maps.clone"], apart := false }
def ModelCopiesSaid : Prop := modelCopiesRow.holds Try.pinned (OpenSpec.ofChange modelCopiesSpec)

/-- ITS FALSE NEIGHBOUR: 'it returns false'. Refute it at one input. -/
def modelCopiesWrong : ChangeSpec := { name := "modelCopies", fn := fun _ => fun
  | [d1, d2, d3] => { results := [.lit (.bool false)], args := [d1, d2, d3] }
  | _ => none }
def ModelCopiesWrongFalsely : Prop := modelCopiesRow.holds Try.pinned (OpenSpec.ofChange modelCopiesWrong)

/-- 'withylaw23.HeapChecks': WHATEVER THE INPUT: true; the input reads as it did. -/
def heapChecksSpec : ChangeSpec := { name := "heapChecks", fn := fun _ => fun
  | [d1, d2, d3, d4, d5, d6] => { results := [.lit (.bool true)], args := [d1, d2, d3, d4, d5, d6] }
  | _ => none }
def heapChecksRow : OpenClaim := { program := "ytmhebljpahogaab", sum := "0b05771357f29956a750d1f68d1f2a3078b1e3c73fd42effef4a4d22a1de1e01", func := "withy/withylaw23.HeapChecks", spec := "heapChecks", unfollowed := true, recurses := true, apart := false }
def HeapChecksSaid : Prop := heapChecksRow.holds Try.pinned (OpenSpec.ofChange heapChecksSpec)

/-- ITS FALSE NEIGHBOUR: 'it returns false'. Refute it at one input. -/
def heapChecksWrong : ChangeSpec := { name := "heapChecks", fn := fun _ => fun
  | [d1, d2, d3, d4, d5, d6] => { results := [.lit (.bool false)], args := [d1, d2, d3, d4, d5, d6] }
  | _ => none }
def HeapChecksWrongFalsely : Prop := heapChecksRow.holds Try.pinned (OpenSpec.ofChange heapChecksWrong)

/-- 'withylaw23.HeapNeeds': WHATEVER THE INPUT: true; the input reads as it did. -/
def heapNeedsSpec : ChangeSpec := { name := "heapNeeds", fn := fun _ => fun
  | [d1, d2, d3, d4] => { results := [.lit (.bool true)], args := [d1, d2, d3, d4] }
  | _ => none }
def heapNeedsRow : OpenClaim := { program := "ytmhebljpahogaab", sum := "0b05771357f29956a750d1f68d1f2a3078b1e3c73fd42effef4a4d22a1de1e01", func := "withy/withylaw23.HeapNeeds", spec := "heapNeeds", unfollowed := true, recurses := true, apart := false }
def HeapNeedsSaid : Prop := heapNeedsRow.holds Try.pinned (OpenSpec.ofChange heapNeedsSpec)

/-- ITS FALSE NEIGHBOUR: 'it returns false'. Refute it at one input. -/
def heapNeedsWrong : ChangeSpec := { name := "heapNeeds", fn := fun _ => fun
  | [d1, d2, d3, d4] => { results := [.lit (.bool false)], args := [d1, d2, d3, d4] }
  | _ => none }
def HeapNeedsWrongFalsely : Prop := heapNeedsRow.holds Try.pinned (OpenSpec.ofChange heapNeedsWrong)

/-- 'withylaw10.FieldAlone': WHATEVER THE INPUT: true; the input reads as it did. -/
def fieldAloneSpec : ChangeSpec := { name := "fieldAlone", fn := fun _ => fun
  | [d1, d2] => { results := [.lit (.bool true)], args := [d1, d2] }
  | _ => none }
def fieldAloneRow : OpenClaim := { program := "ytmhebljpahogaab", sum := "0b05771357f29956a750d1f68d1f2a3078b1e3c73fd42effef4a4d22a1de1e01", func := "withy/withylaw10.FieldAlone", spec := "fieldAlone", apart := false }
def FieldAloneSaid : Prop := fieldAloneRow.holds Try.pinned (OpenSpec.ofChange fieldAloneSpec)

/-- ITS FALSE NEIGHBOUR: 'it returns false'. Refute it at one input. -/
def fieldAloneWrong : ChangeSpec := { name := "fieldAlone", fn := fun _ => fun
  | [d1, d2] => { results := [.lit (.bool false)], args := [d1, d2] }
  | _ => none }
def FieldAloneWrongFalsely : Prop := fieldAloneRow.holds Try.pinned (OpenSpec.ofChange fieldAloneWrong)

/- THE SECOND FORM. 'bulk': how many values and letters a reading holds, each counted each time it is reached (what is shared counts as often as it is met; a slice's spare places count too). A statement '..UptoSaid' is the law's where the arguments, and the package variables that the reading takes, are together of bulk at most 1048576: NARROWER than '..Said'. Prove '..Said' where nothing that the law and all that it calls make is longer than what came in: it says more and counts as full. Else prove '..UptoSaid'. A law counts once. -/
mutual
def uptoBulk {H : Type} : DataW H → Nat
  | .lit (.string bytes) => bytes.length + 1
  | .lit _ => 1
  | .nil => 1
  | .ptr d => uptoBulk d + 1
  | .slice elems spare => uptoBulkAll elems + uptoBulkAll spare + 1
  | .agg parts => uptoBulkAll parts + 1
  | .iface _ d => uptoBulk d + 1
  | .map entries => uptoBulkEntries entries + 1
  | .held _ => 1
def uptoBulkAll {H : Type} : List (DataW H) → Nat
  | [] => 0
  | d :: r => uptoBulk d + uptoBulkAll r
def uptoBulkEntries {H : Type} : List (Lit × DataW H) → Nat
  | [] => 0
  | x :: r => uptoBulkEntry x + uptoBulkEntries r
def uptoBulkEntry {H : Type} : Lit × DataW H → Nat
  | (.string bytes, d) => bytes.length + uptoBulk d + 1
  | (_, d) => uptoBulk d + 1
 end
def uptoSmall : (H : Type) → List (DataW H) → Bool := fun _ ds => decide (uptoBulkAll ds ≤ 1048576)
def OpenSpec.upto (s : _root_.Go.ChangeSpec) : _root_.Go.OpenSpec := { _root_.Go.OpenSpec.ofChange s with cond := some uptoSmall }

/-- 'withylaw09.ShadePlays', WHERE WHAT IT READS IS OF BULK AT MOST 1048576: true; the input reads as it did. -/
def shadePlaysUptoRow : OpenClaim := { program := "ytmhebljpahogaab", sum := "0b05771357f29956a750d1f68d1f2a3078b1e3c73fd42effef4a4d22a1de1e01", func := "withy/withylaw09.ShadePlays", spec := "shadePlays", apart := false, narrowed := true }
def ShadePlaysUptoSaid : Prop := shadePlaysUptoRow.holds Try.pinned (OpenSpec.upto shadePlaysSpec)

/-- 'withylaw09.ShadeAlone', WHERE WHAT IT READS IS OF BULK AT MOST 1048576: true; the input reads as it did. -/
def shadeAloneUptoRow : OpenClaim := { program := "ytmhebljpahogaab", sum := "0b05771357f29956a750d1f68d1f2a3078b1e3c73fd42effef4a4d22a1de1e01", func := "withy/withylaw09.ShadeAlone", spec := "shadeAlone", apart := false, narrowed := true }
def ShadeAloneUptoSaid : Prop := shadeAloneUptoRow.holds Try.pinned (OpenSpec.upto shadeAloneSpec)

/-- 'withylaw17.ModelCopies', WHERE WHAT IT READS IS OF BULK AT MOST 1048576: true; the input reads as it did. -/
def modelCopiesUptoRow : OpenClaim := { program := "ytmhebljpahogaab", sum := "0b05771357f29956a750d1f68d1f2a3078b1e3c73fd42effef4a4d22a1de1e01", func := "withy/withylaw17.ModelCopies", spec := "modelCopies", inPlace := ["maps.clone"], apart := false, narrowed := true }
def ModelCopiesUptoSaid : Prop := modelCopiesUptoRow.holds Try.pinned (OpenSpec.upto modelCopiesSpec)

/-- 'withylaw23.HeapChecks', WHERE WHAT IT READS IS OF BULK AT MOST 1048576: true; the input reads as it did. -/
def heapChecksUptoRow : OpenClaim := { program := "ytmhebljpahogaab", sum := "0b05771357f29956a750d1f68d1f2a3078b1e3c73fd42effef4a4d22a1de1e01", func := "withy/withylaw23.HeapChecks", spec := "heapChecks", unfollowed := true, recurses := true, apart := false, narrowed := true }
def HeapChecksUptoSaid : Prop := heapChecksUptoRow.holds Try.pinned (OpenSpec.upto heapChecksSpec)

/-- 'withylaw23.HeapNeeds', WHERE WHAT IT READS IS OF BULK AT MOST 1048576: true; the input reads as it did. -/
def heapNeedsUptoRow : OpenClaim := { program := "ytmhebljpahogaab", sum := "0b05771357f29956a750d1f68d1f2a3078b1e3c73fd42effef4a4d22a1de1e01", func := "withy/withylaw23.HeapNeeds", spec := "heapNeeds", unfollowed := true, recurses := true, apart := false, narrowed := true }
def HeapNeedsUptoSaid : Prop := heapNeedsUptoRow.holds Try.pinned (OpenSpec.upto heapNeedsSpec)

/-- 'withylaw10.FieldAlone', WHERE WHAT IT READS IS OF BULK AT MOST 1048576: true; the input reads as it did. -/
def fieldAloneUptoRow : OpenClaim := { program := "ytmhebljpahogaab", sum := "0b05771357f29956a750d1f68d1f2a3078b1e3c73fd42effef4a4d22a1de1e01", func := "withy/withylaw10.FieldAlone", spec := "fieldAlone", apart := false, narrowed := true }
def FieldAloneUptoSaid : Prop := fieldAloneUptoRow.holds Try.pinned (OpenSpec.upto fieldAloneSpec)

end Rows
end Go.Proofs.Ytmhebljpahogaab
