/-
  No cell of these rows narrows 'for every input' (looked for: loops, veiled, ifaces, maps, wideKeys, modest, calm, conditions, laid).
  DERIVED. THE GIVEN ROWS OF THIS SEAT. 12 by the template 'for every input the law returns true; each argument reads behind the call as it read before'; 0 by the template 'total and deterministic' (their statements: YtmhebljpahogaaaTotals.lean).
  GIVEN WITH THE SEED: the statements are not yours to turn. If you find one false, say at which input.
  Laid BY PROGRAM, IN A SANDBOX (cutbox-rows.mjs): the forced cells as the released guide's own fill.sh prints them over the translation 7043437051485a88… (all of the seat's roots in one cut). By AI agents, Wed Nov 11 2026. No macro, syntax, notation, axiom, sorry.
-/
import Derived.Test.YtmhebljpahogaaaChecked
import GoSem.Claim
import GoSem.ClaimJoined
import GoSem.ClaimMapViews
import Derived.JoinedTies
import Derived.KernelRfl
namespace Go.Proofs.Ytmhebljpahogaaa
/- THE CELL 'sum', in the pinned program and in every row, IS THE sha256 OF THE DUMP (.gsa) THAT YtmhebljpahogaaaProg.lean LOADS. Nothing in Lean hashes anything: it is a label: what it is worth is what the hold of that sum in a sandbox is worth. -/
noncomputable def Try.pinned : Pinned := { name := "ytmhebljpahogaaa", sum := "7043437051485a887d33652629890de18091edb5617cbb256ed2477471b2167e", checked := Try.checked }
namespace Rows
def none {H : Type} : Left H := { results := [], args := [] }

/-- 'withylaw16.OpValues': WHATEVER THE INPUT: true; the input reads as it did. -/
def opValuesSpec : ChangeSpec := { name := "opValues", fn := fun _ => fun
  | [d1, d2, d3] => { results := [.lit (.bool true)], args := [d1, d2, d3] }
  | _ => none }
def opValuesRow : OpenClaim := { program := "ytmhebljpahogaaa", sum := "7043437051485a887d33652629890de18091edb5617cbb256ed2477471b2167e", func := "withy/withylaw16.OpValues", spec := "opValues", apart := false }
def OpValuesSaid : Prop := opValuesRow.holds Try.pinned (OpenSpec.ofChange opValuesSpec)

/-- ITS FALSE NEIGHBOUR: 'it returns false'. Refute it at one input. -/
def opValuesWrong : ChangeSpec := { name := "opValues", fn := fun _ => fun
  | [d1, d2, d3] => { results := [.lit (.bool false)], args := [d1, d2, d3] }
  | _ => none }
def OpValuesWrongFalsely : Prop := opValuesRow.holds Try.pinned (OpenSpec.ofChange opValuesWrong)

/-- 'withylaw16.OpCalls': WHATEVER THE INPUT: true; the input reads as it did. -/
def opCallsSpec : ChangeSpec := { name := "opCalls", fn := fun _ => fun
  | [d1, d2, d3] => { results := [.lit (.bool true)], args := [d1, d2, d3] }
  | _ => none }
def opCallsRow : OpenClaim := { program := "ytmhebljpahogaaa", sum := "7043437051485a887d33652629890de18091edb5617cbb256ed2477471b2167e", func := "withy/withylaw16.OpCalls", spec := "opCalls", apart := false }
def OpCallsSaid : Prop := opCallsRow.holds Try.pinned (OpenSpec.ofChange opCallsSpec)

/-- ITS FALSE NEIGHBOUR: 'it returns false'. Refute it at one input. -/
def opCallsWrong : ChangeSpec := { name := "opCalls", fn := fun _ => fun
  | [d1, d2, d3] => { results := [.lit (.bool false)], args := [d1, d2, d3] }
  | _ => none }
def OpCallsWrongFalsely : Prop := opCallsRow.holds Try.pinned (OpenSpec.ofChange opCallsWrong)

/-- 'withylaw16.OpRaw': WHATEVER THE INPUT: true; the input reads as it did. -/
def opRawSpec : ChangeSpec := { name := "opRaw", fn := fun _ => fun
  | [d1, d2, d3, d4] => { results := [.lit (.bool true)], args := [d1, d2, d3, d4] }
  | _ => none }
def opRawRow : OpenClaim := { program := "ytmhebljpahogaaa", sum := "7043437051485a887d33652629890de18091edb5617cbb256ed2477471b2167e", func := "withy/withylaw16.OpRaw", spec := "opRaw", apart := false }
def OpRawSaid : Prop := opRawRow.holds Try.pinned (OpenSpec.ofChange opRawSpec)

/-- ITS FALSE NEIGHBOUR: 'it returns false'. Refute it at one input. -/
def opRawWrong : ChangeSpec := { name := "opRaw", fn := fun _ => fun
  | [d1, d2, d3, d4] => { results := [.lit (.bool false)], args := [d1, d2, d3, d4] }
  | _ => none }
def OpRawWrongFalsely : Prop := opRawRow.holds Try.pinned (OpenSpec.ofChange opRawWrong)

/-- 'withylaw16.OpSelf': WHATEVER THE INPUT: true; the input reads as it did. -/
def opSelfSpec : ChangeSpec := { name := "opSelf", fn := fun _ => fun
  | [d1, d2, d3, d4] => { results := [.lit (.bool true)], args := [d1, d2, d3, d4] }
  | _ => none }
def opSelfRow : OpenClaim := { program := "ytmhebljpahogaaa", sum := "7043437051485a887d33652629890de18091edb5617cbb256ed2477471b2167e", func := "withy/withylaw16.OpSelf", spec := "opSelf", apart := false }
def OpSelfSaid : Prop := opSelfRow.holds Try.pinned (OpenSpec.ofChange opSelfSpec)

/-- ITS FALSE NEIGHBOUR: 'it returns false'. Refute it at one input. -/
def opSelfWrong : ChangeSpec := { name := "opSelf", fn := fun _ => fun
  | [d1, d2, d3, d4] => { results := [.lit (.bool false)], args := [d1, d2, d3, d4] }
  | _ => none }
def OpSelfWrongFalsely : Prop := opSelfRow.holds Try.pinned (OpenSpec.ofChange opSelfWrong)

/-- 'withylaw16.OpKinds': WHATEVER THE INPUT: true; the input reads as it did. -/
def opKindsSpec : ChangeSpec := { name := "opKinds", fn := fun _ => fun
  | [d] => { results := [.lit (.bool true)], args := [d] }
  | _ => none }
def opKindsRow : OpenClaim := { program := "ytmhebljpahogaaa", sum := "7043437051485a887d33652629890de18091edb5617cbb256ed2477471b2167e", func := "withy/withylaw16.OpKinds", spec := "opKinds", apart := false }
def OpKindsSaid : Prop := opKindsRow.holds Try.pinned (OpenSpec.ofChange opKindsSpec)

/-- ITS FALSE NEIGHBOUR: 'it returns false'. Refute it at one input. -/
def opKindsWrong : ChangeSpec := { name := "opKinds", fn := fun _ => fun
  | [d] => { results := [.lit (.bool false)], args := [d] }
  | _ => none }
def OpKindsWrongFalsely : Prop := opKindsRow.holds Try.pinned (OpenSpec.ofChange opKindsWrong)

/-- 'withylaw09.ShadeGrays': WHATEVER THE INPUT: true; the input reads as it did. -/
def shadeGraysSpec : ChangeSpec := { name := "shadeGrays", fn := fun _ => fun
  | [d1, d2, d3] => { results := [.lit (.bool true)], args := [d1, d2, d3] }
  | _ => none }
def shadeGraysRow : OpenClaim := { program := "ytmhebljpahogaaa", sum := "7043437051485a887d33652629890de18091edb5617cbb256ed2477471b2167e", func := "withy/withylaw09.ShadeGrays", spec := "shadeGrays", apart := false }
def ShadeGraysSaid : Prop := shadeGraysRow.holds Try.pinned (OpenSpec.ofChange shadeGraysSpec)

/-- ITS FALSE NEIGHBOUR: 'it returns false'. Refute it at one input. -/
def shadeGraysWrong : ChangeSpec := { name := "shadeGrays", fn := fun _ => fun
  | [d1, d2, d3] => { results := [.lit (.bool false)], args := [d1, d2, d3] }
  | _ => none }
def ShadeGraysWrongFalsely : Prop := shadeGraysRow.holds Try.pinned (OpenSpec.ofChange shadeGraysWrong)

/-- 'withylaw09.ShadeNone': WHATEVER THE INPUT: true; the input reads as it did. -/
def shadeNoneSpec : ChangeSpec := { name := "shadeNone", fn := fun _ => fun
  | [d1, d2, d3] => { results := [.lit (.bool true)], args := [d1, d2, d3] }
  | _ => none }
def shadeNoneRow : OpenClaim := { program := "ytmhebljpahogaaa", sum := "7043437051485a887d33652629890de18091edb5617cbb256ed2477471b2167e", func := "withy/withylaw09.ShadeNone", spec := "shadeNone", apart := false }
def ShadeNoneSaid : Prop := shadeNoneRow.holds Try.pinned (OpenSpec.ofChange shadeNoneSpec)

/-- ITS FALSE NEIGHBOUR: 'it returns false'. Refute it at one input. -/
def shadeNoneWrong : ChangeSpec := { name := "shadeNone", fn := fun _ => fun
  | [d1, d2, d3] => { results := [.lit (.bool false)], args := [d1, d2, d3] }
  | _ => none }
def ShadeNoneWrongFalsely : Prop := shadeNoneRow.holds Try.pinned (OpenSpec.ofChange shadeNoneWrong)

/-- 'withylaw09.ShadeTwice': WHATEVER THE INPUT: true; the input reads as it did. -/
def shadeTwiceSpec : ChangeSpec := { name := "shadeTwice", fn := fun _ => fun
  | [d1, d2, d3, d4] => { results := [.lit (.bool true)], args := [d1, d2, d3, d4] }
  | _ => none }
def shadeTwiceRow : OpenClaim := { program := "ytmhebljpahogaaa", sum := "7043437051485a887d33652629890de18091edb5617cbb256ed2477471b2167e", func := "withy/withylaw09.ShadeTwice", spec := "shadeTwice", apart := false }
def ShadeTwiceSaid : Prop := shadeTwiceRow.holds Try.pinned (OpenSpec.ofChange shadeTwiceSpec)

/-- ITS FALSE NEIGHBOUR: 'it returns false'. Refute it at one input. -/
def shadeTwiceWrong : ChangeSpec := { name := "shadeTwice", fn := fun _ => fun
  | [d1, d2, d3, d4] => { results := [.lit (.bool false)], args := [d1, d2, d3, d4] }
  | _ => none }
def ShadeTwiceWrongFalsely : Prop := shadeTwiceRow.holds Try.pinned (OpenSpec.ofChange shadeTwiceWrong)

/-- 'withylaw17.ModelPlays': WHATEVER THE INPUT: true; the input reads as it did. -/
def modelPlaysSpec : ChangeSpec := { name := "modelPlays", fn := fun _ => fun
  | [d] => { results := [.lit (.bool true)], args := [d] }
  | _ => none }
def modelPlaysRow : OpenClaim := { program := "ytmhebljpahogaaa", sum := "7043437051485a887d33652629890de18091edb5617cbb256ed2477471b2167e", func := "withy/withylaw17.ModelPlays", spec := "modelPlays", apart := false }
def ModelPlaysSaid : Prop := modelPlaysRow.holds Try.pinned (OpenSpec.ofChange modelPlaysSpec)

/-- ITS FALSE NEIGHBOUR: 'it returns false'. Refute it at one input. -/
def modelPlaysWrong : ChangeSpec := { name := "modelPlays", fn := fun _ => fun
  | [d] => { results := [.lit (.bool false)], args := [d] }
  | _ => none }
def ModelPlaysWrongFalsely : Prop := modelPlaysRow.holds Try.pinned (OpenSpec.ofChange modelPlaysWrong)

/-- 'withylaw17.ModelRefuses': WHATEVER THE INPUT: true; the input reads as it did. -/
def modelRefusesSpec : ChangeSpec := { name := "modelRefuses", fn := fun _ => fun
  | [d1, d2] => { results := [.lit (.bool true)], args := [d1, d2] }
  | _ => none }
def modelRefusesRow : OpenClaim := { program := "ytmhebljpahogaaa", sum := "7043437051485a887d33652629890de18091edb5617cbb256ed2477471b2167e", func := "withy/withylaw17.ModelRefuses", spec := "modelRefuses", apart := false }
def ModelRefusesSaid : Prop := modelRefusesRow.holds Try.pinned (OpenSpec.ofChange modelRefusesSpec)

/-- ITS FALSE NEIGHBOUR: 'it returns false'. Refute it at one input. -/
def modelRefusesWrong : ChangeSpec := { name := "modelRefuses", fn := fun _ => fun
  | [d1, d2] => { results := [.lit (.bool false)], args := [d1, d2] }
  | _ => none }
def ModelRefusesWrongFalsely : Prop := modelRefusesRow.holds Try.pinned (OpenSpec.ofChange modelRefusesWrong)

/-- 'withylaw17.ModelNew': WHATEVER THE INPUT: true; the input reads as it did. -/
def modelNewSpec : ChangeSpec := { name := "modelNew", fn := fun _ => fun
  | [d] => { results := [.lit (.bool true)], args := [d] }
  | _ => none }
def modelNewRow : OpenClaim := { program := "ytmhebljpahogaaa", sum := "7043437051485a887d33652629890de18091edb5617cbb256ed2477471b2167e", func := "withy/withylaw17.ModelNew", spec := "modelNew", apart := false }
def ModelNewSaid : Prop := modelNewRow.holds Try.pinned (OpenSpec.ofChange modelNewSpec)

/-- ITS FALSE NEIGHBOUR: 'it returns false'. Refute it at one input. -/
def modelNewWrong : ChangeSpec := { name := "modelNew", fn := fun _ => fun
  | [d] => { results := [.lit (.bool false)], args := [d] }
  | _ => none }
def ModelNewWrongFalsely : Prop := modelNewRow.holds Try.pinned (OpenSpec.ofChange modelNewWrong)

/-- 'withylaw17.ModelRoom': WHATEVER THE INPUT: true; the input reads as it did. -/
def modelRoomSpec : ChangeSpec := { name := "modelRoom", fn := fun _ => fun
  | [d] => { results := [.lit (.bool true)], args := [d] }
  | _ => none }
def modelRoomRow : OpenClaim := { program := "ytmhebljpahogaaa", sum := "7043437051485a887d33652629890de18091edb5617cbb256ed2477471b2167e", func := "withy/withylaw17.ModelRoom", spec := "modelRoom", apart := false }
def ModelRoomSaid : Prop := modelRoomRow.holds Try.pinned (OpenSpec.ofChange modelRoomSpec)

/-- ITS FALSE NEIGHBOUR: 'it returns false'. Refute it at one input. -/
def modelRoomWrong : ChangeSpec := { name := "modelRoom", fn := fun _ => fun
  | [d] => { results := [.lit (.bool false)], args := [d] }
  | _ => none }
def ModelRoomWrongFalsely : Prop := modelRoomRow.holds Try.pinned (OpenSpec.ofChange modelRoomWrong)

/- THE SECOND FORM. 'bulk': how many values and letters a reading holds, each counted each time it is reached (what is shared counts as often as it is met; a slice's spare places count too). A statement '..UptoSaid' is the law's where the arguments, and the package variables that the reading takes, are together of bulk at most 1048576: NARROWER than '..Said'. Prove '..Said' where nothing that the law and all that it calls make is longer than what came in: it says more and counts as full. Else prove '..UptoSaid'. A law counts once. -/
mutual
def uptoBulk {H : Type} : DataW H → Nat
  | .lit (.string bytes) => bytes.length + 1
  | .lit _ => 1
  | .nil => 1
  | .ptr d => uptoBulk d + 1
  | .slice elems spare => uptoBulkAll elems + uptoBulkAll spare + 1
  | .agg parts => uptoBulkAll parts + 1
  | .iface _ d => uptoBulk d + 1
  | .map entries => uptoBulkEntries entries + 1
  | .held _ => 1
def uptoBulkAll {H : Type} : List (DataW H) → Nat
  | [] => 0
  | d :: r => uptoBulk d + uptoBulkAll r
def uptoBulkEntries {H : Type} : List (Lit × DataW H) → Nat
  | [] => 0
  | x :: r => uptoBulkEntry x + uptoBulkEntries r
def uptoBulkEntry {H : Type} : Lit × DataW H → Nat
  | (.string bytes, d) => bytes.length + uptoBulk d + 1
  | (_, d) => uptoBulk d + 1
 end
def uptoSmall : (H : Type) → List (DataW H) → Bool := fun _ ds => decide (uptoBulkAll ds ≤ 1048576)
def OpenSpec.upto (s : _root_.Go.ChangeSpec) : _root_.Go.OpenSpec := { _root_.Go.OpenSpec.ofChange s with cond := some uptoSmall }

/-- 'withylaw16.OpValues', WHERE WHAT IT READS IS OF BULK AT MOST 1048576: true; the input reads as it did. -/
def opValuesUptoRow : OpenClaim := { program := "ytmhebljpahogaaa", sum := "7043437051485a887d33652629890de18091edb5617cbb256ed2477471b2167e", func := "withy/withylaw16.OpValues", spec := "opValues", apart := false, narrowed := true }
def OpValuesUptoSaid : Prop := opValuesUptoRow.holds Try.pinned (OpenSpec.upto opValuesSpec)

/-- 'withylaw16.OpCalls', WHERE WHAT IT READS IS OF BULK AT MOST 1048576: true; the input reads as it did. -/
def opCallsUptoRow : OpenClaim := { program := "ytmhebljpahogaaa", sum := "7043437051485a887d33652629890de18091edb5617cbb256ed2477471b2167e", func := "withy/withylaw16.OpCalls", spec := "opCalls", apart := false, narrowed := true }
def OpCallsUptoSaid : Prop := opCallsUptoRow.holds Try.pinned (OpenSpec.upto opCallsSpec)

/-- 'withylaw16.OpRaw', WHERE WHAT IT READS IS OF BULK AT MOST 1048576: true; the input reads as it did. -/
def opRawUptoRow : OpenClaim := { program := "ytmhebljpahogaaa", sum := "7043437051485a887d33652629890de18091edb5617cbb256ed2477471b2167e", func := "withy/withylaw16.OpRaw", spec := "opRaw", apart := false, narrowed := true }
def OpRawUptoSaid : Prop := opRawUptoRow.holds Try.pinned (OpenSpec.upto opRawSpec)

/-- 'withylaw16.OpSelf', WHERE WHAT IT READS IS OF BULK AT MOST 1048576: true; the input reads as it did. -/
def opSelfUptoRow : OpenClaim := { program := "ytmhebljpahogaaa", sum := "7043437051485a887d33652629890de18091edb5617cbb256ed2477471b2167e", func := "withy/withylaw16.OpSelf", spec := "opSelf", apart := false, narrowed := true }
def OpSelfUptoSaid : Prop := opSelfUptoRow.holds Try.pinned (OpenSpec.upto opSelfSpec)

/-- 'withylaw16.OpKinds', WHERE WHAT IT READS IS OF BULK AT MOST 1048576: true; the input reads as it did. -/
def opKindsUptoRow : OpenClaim := { program := "ytmhebljpahogaaa", sum := "7043437051485a887d33652629890de18091edb5617cbb256ed2477471b2167e", func := "withy/withylaw16.OpKinds", spec := "opKinds", apart := false, narrowed := true }
def OpKindsUptoSaid : Prop := opKindsUptoRow.holds Try.pinned (OpenSpec.upto opKindsSpec)

/-- 'withylaw09.ShadeGrays', WHERE WHAT IT READS IS OF BULK AT MOST 1048576: true; the input reads as it did. -/
def shadeGraysUptoRow : OpenClaim := { program := "ytmhebljpahogaaa", sum := "7043437051485a887d33652629890de18091edb5617cbb256ed2477471b2167e", func := "withy/withylaw09.ShadeGrays", spec := "shadeGrays", apart := false, narrowed := true }
def ShadeGraysUptoSaid : Prop := shadeGraysUptoRow.holds Try.pinned (OpenSpec.upto shadeGraysSpec)

/-- 'withylaw09.ShadeNone', WHERE WHAT IT READS IS OF BULK AT MOST 1048576: true; the input reads as it did. -/
def shadeNoneUptoRow : OpenClaim := { program := "ytmhebljpahogaaa", sum := "7043437051485a887d33652629890de18091edb5617cbb256ed2477471b2167e", func := "withy/withylaw09.ShadeNone", spec := "shadeNone", apart := false, narrowed := true }
def ShadeNoneUptoSaid : Prop := shadeNoneUptoRow.holds Try.pinned (OpenSpec.upto shadeNoneSpec)

/-- 'withylaw09.ShadeTwice', WHERE WHAT IT READS IS OF BULK AT MOST 1048576: true; the input reads as it did. -/
def shadeTwiceUptoRow : OpenClaim := { program := "ytmhebljpahogaaa", sum := "7043437051485a887d33652629890de18091edb5617cbb256ed2477471b2167e", func := "withy/withylaw09.ShadeTwice", spec := "shadeTwice", apart := false, narrowed := true }
def ShadeTwiceUptoSaid : Prop := shadeTwiceUptoRow.holds Try.pinned (OpenSpec.upto shadeTwiceSpec)

/-- 'withylaw17.ModelPlays', WHERE WHAT IT READS IS OF BULK AT MOST 1048576: true; the input reads as it did. -/
def modelPlaysUptoRow : OpenClaim := { program := "ytmhebljpahogaaa", sum := "7043437051485a887d33652629890de18091edb5617cbb256ed2477471b2167e", func := "withy/withylaw17.ModelPlays", spec := "modelPlays", apart := false, narrowed := true }
def ModelPlaysUptoSaid : Prop := modelPlaysUptoRow.holds Try.pinned (OpenSpec.upto modelPlaysSpec)

/-- 'withylaw17.ModelRefuses', WHERE WHAT IT READS IS OF BULK AT MOST 1048576: true; the input reads as it did. -/
def modelRefusesUptoRow : OpenClaim := { program := "ytmhebljpahogaaa", sum := "7043437051485a887d33652629890de18091edb5617cbb256ed2477471b2167e", func := "withy/withylaw17.ModelRefuses", spec := "modelRefuses", apart := false, narrowed := true }
def ModelRefusesUptoSaid : Prop := modelRefusesUptoRow.holds Try.pinned (OpenSpec.upto modelRefusesSpec)

/-- 'withylaw17.ModelNew', WHERE WHAT IT READS IS OF BULK AT MOST 1048576: true; the input reads as it did. -/
def modelNewUptoRow : OpenClaim := { program := "ytmhebljpahogaaa", sum := "7043437051485a887d33652629890de18091edb5617cbb256ed2477471b2167e", func := "withy/withylaw17.ModelNew", spec := "modelNew", apart := false, narrowed := true }
def ModelNewUptoSaid : Prop := modelNewUptoRow.holds Try.pinned (OpenSpec.upto modelNewSpec)

/-- 'withylaw17.ModelRoom', WHERE WHAT IT READS IS OF BULK AT MOST 1048576: true; the input reads as it did. -/
def modelRoomUptoRow : OpenClaim := { program := "ytmhebljpahogaaa", sum := "7043437051485a887d33652629890de18091edb5617cbb256ed2477471b2167e", func := "withy/withylaw17.ModelRoom", spec := "modelRoom", apart := false, narrowed := true }
def ModelRoomUptoSaid : Prop := modelRoomUptoRow.holds Try.pinned (OpenSpec.upto modelRoomSpec)

end Rows
end Go.Proofs.Ytmhebljpahogaaa
