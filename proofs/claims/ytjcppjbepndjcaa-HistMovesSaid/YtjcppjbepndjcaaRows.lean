/-
  No cell of these rows narrows 'for every input' (looked for: loops, veiled, ifaces, maps, wideKeys, modest, calm, conditions, laid).
  DERIVED. THE GIVEN ROWS OF THIS SEAT. 12 by the template 'for every input the law returns true; each argument reads behind the call as it read before'; 0 by the template 'total and deterministic' (their statements: YtjcppjbepndjcaaTotals.lean).
  GIVEN WITH THE SEED: the statements are not yours to turn. If you find one false, say at which input.
  Laid BY PROGRAM, IN A SANDBOX (cutbox-rows.mjs): the forced cells as the released guide's own fill.sh prints them over the translation 1286531cf41e0087… (all of the seat's roots in one cut). By AI agents, Wed Nov 11 2026. No macro, syntax, notation, axiom, sorry.
-/
import Derived.Test.YtjcppjbepndjcaaChecked
import GoSem.Claim
import GoSem.ClaimJoined
import GoSem.ClaimMapViews
import Derived.JoinedTies
import Derived.KernelRfl
namespace Go.Proofs.Ytjcppjbepndjcaa
/- THE CELL 'sum', in the pinned program and in every row, IS THE sha256 OF THE DUMP (.gsa) THAT YtjcppjbepndjcaaProg.lean LOADS. Nothing in Lean hashes anything: it is a label: what it is worth is what the hold of that sum in a sandbox is worth. -/
noncomputable def Try.pinned : Pinned := { name := "ytjcppjbepndjcaa", sum := "1286531cf41e0087f3c5ab8b927b26a8a0a4d5c46fd2bdc767036895a3026779", checked := Try.checked }
namespace Rows
def none {H : Type} : Left H := { results := [], args := [] }

/-- 'withylaw17.ModelPlays': WHATEVER THE INPUT: true; the input reads as it did. -/
def modelPlaysSpec : ChangeSpec := { name := "modelPlays", fn := fun _ => fun
  | [d] => { results := [.lit (.bool true)], args := [d] }
  | _ => none }
def modelPlaysRow : OpenClaim := { program := "ytjcppjbepndjcaa", sum := "1286531cf41e0087f3c5ab8b927b26a8a0a4d5c46fd2bdc767036895a3026779", func := "withy/withylaw17.ModelPlays", spec := "modelPlays", apart := false }
def ModelPlaysSaid : Prop := modelPlaysRow.holds Try.pinned (OpenSpec.ofChange modelPlaysSpec)

/-- ITS FALSE NEIGHBOUR: 'it returns false'. Refute it at one input. -/
def modelPlaysWrong : ChangeSpec := { name := "modelPlays", fn := fun _ => fun
  | [d] => { results := [.lit (.bool false)], args := [d] }
  | _ => none }
def ModelPlaysWrongFalsely : Prop := modelPlaysRow.holds Try.pinned (OpenSpec.ofChange modelPlaysWrong)

/-- 'withylaw17.ModelRefuses': WHATEVER THE INPUT: true; the input reads as it did. -/
def modelRefusesSpec : ChangeSpec := { name := "modelRefuses", fn := fun _ => fun
  | [d1, d2] => { results := [.lit (.bool true)], args := [d1, d2] }
  | _ => none }
def modelRefusesRow : OpenClaim := { program := "ytjcppjbepndjcaa", sum := "1286531cf41e0087f3c5ab8b927b26a8a0a4d5c46fd2bdc767036895a3026779", func := "withy/withylaw17.ModelRefuses", spec := "modelRefuses", apart := false }
def ModelRefusesSaid : Prop := modelRefusesRow.holds Try.pinned (OpenSpec.ofChange modelRefusesSpec)

/-- ITS FALSE NEIGHBOUR: 'it returns false'. Refute it at one input. -/
def modelRefusesWrong : ChangeSpec := { name := "modelRefuses", fn := fun _ => fun
  | [d1, d2] => { results := [.lit (.bool false)], args := [d1, d2] }
  | _ => none }
def ModelRefusesWrongFalsely : Prop := modelRefusesRow.holds Try.pinned (OpenSpec.ofChange modelRefusesWrong)

/-- 'withylaw17.ModelRoom': WHATEVER THE INPUT: true; the input reads as it did. -/
def modelRoomSpec : ChangeSpec := { name := "modelRoom", fn := fun _ => fun
  | [d] => { results := [.lit (.bool true)], args := [d] }
  | _ => none }
def modelRoomRow : OpenClaim := { program := "ytjcppjbepndjcaa", sum := "1286531cf41e0087f3c5ab8b927b26a8a0a4d5c46fd2bdc767036895a3026779", func := "withy/withylaw17.ModelRoom", spec := "modelRoom", apart := false }
def ModelRoomSaid : Prop := modelRoomRow.holds Try.pinned (OpenSpec.ofChange modelRoomSpec)

/-- ITS FALSE NEIGHBOUR: 'it returns false'. Refute it at one input. -/
def modelRoomWrong : ChangeSpec := { name := "modelRoom", fn := fun _ => fun
  | [d] => { results := [.lit (.bool false)], args := [d] }
  | _ => none }
def ModelRoomWrongFalsely : Prop := modelRoomRow.holds Try.pinned (OpenSpec.ofChange modelRoomWrong)

/-- 'withylaw10.FieldAlone': WHATEVER THE INPUT: true; the input reads as it did. -/
def fieldAloneSpec : ChangeSpec := { name := "fieldAlone", fn := fun _ => fun
  | [d1, d2] => { results := [.lit (.bool true)], args := [d1, d2] }
  | _ => none }
def fieldAloneRow : OpenClaim := { program := "ytjcppjbepndjcaa", sum := "1286531cf41e0087f3c5ab8b927b26a8a0a4d5c46fd2bdc767036895a3026779", func := "withy/withylaw10.FieldAlone", spec := "fieldAlone", apart := false }
def FieldAloneSaid : Prop := fieldAloneRow.holds Try.pinned (OpenSpec.ofChange fieldAloneSpec)

/-- ITS FALSE NEIGHBOUR: 'it returns false'. Refute it at one input. -/
def fieldAloneWrong : ChangeSpec := { name := "fieldAlone", fn := fun _ => fun
  | [d1, d2] => { results := [.lit (.bool false)], args := [d1, d2] }
  | _ => none }
def FieldAloneWrongFalsely : Prop := fieldAloneRow.holds Try.pinned (OpenSpec.ofChange fieldAloneWrong)

/-- 'withylaw10.FieldViews': WHATEVER THE INPUT: true; the input reads as it did. -/
def fieldViewsSpec : ChangeSpec := { name := "fieldViews", fn := fun _ => fun
  | [d] => { results := [.lit (.bool true)], args := [d] }
  | _ => none }
def fieldViewsRow : OpenClaim := { program := "ytjcppjbepndjcaa", sum := "1286531cf41e0087f3c5ab8b927b26a8a0a4d5c46fd2bdc767036895a3026779", func := "withy/withylaw10.FieldViews", spec := "fieldViews", apart := false }
def FieldViewsSaid : Prop := fieldViewsRow.holds Try.pinned (OpenSpec.ofChange fieldViewsSpec)

/-- ITS FALSE NEIGHBOUR: 'it returns false'. Refute it at one input. -/
def fieldViewsWrong : ChangeSpec := { name := "fieldViews", fn := fun _ => fun
  | [d] => { results := [.lit (.bool false)], args := [d] }
  | _ => none }
def FieldViewsWrongFalsely : Prop := fieldViewsRow.holds Try.pinned (OpenSpec.ofChange fieldViewsWrong)

/-- 'withylaw10.FieldStamps': WHATEVER THE INPUT: true; the input reads as it did. -/
def fieldStampsSpec : ChangeSpec := { name := "fieldStamps", fn := fun _ => fun
  | [d1, d2] => { results := [.lit (.bool true)], args := [d1, d2] }
  | _ => none }
def fieldStampsRow : OpenClaim := { program := "ytjcppjbepndjcaa", sum := "1286531cf41e0087f3c5ab8b927b26a8a0a4d5c46fd2bdc767036895a3026779", func := "withy/withylaw10.FieldStamps", spec := "fieldStamps", apart := false }
def FieldStampsSaid : Prop := fieldStampsRow.holds Try.pinned (OpenSpec.ofChange fieldStampsSpec)

/-- ITS FALSE NEIGHBOUR: 'it returns false'. Refute it at one input. -/
def fieldStampsWrong : ChangeSpec := { name := "fieldStamps", fn := fun _ => fun
  | [d1, d2] => { results := [.lit (.bool false)], args := [d1, d2] }
  | _ => none }
def FieldStampsWrongFalsely : Prop := fieldStampsRow.holds Try.pinned (OpenSpec.ofChange fieldStampsWrong)

/-- 'withylaw13.MarkFound': WHATEVER THE INPUT: true; the input reads as it did. -/
def markFoundSpec : ChangeSpec := { name := "markFound", fn := fun _ => fun
  | [d1, d2, d3, d4, d5, d6] => { results := [.lit (.bool true)], args := [d1, d2, d3, d4, d5, d6] }
  | _ => none }
def markFoundRow : OpenClaim := { program := "ytjcppjbepndjcaa", sum := "1286531cf41e0087f3c5ab8b927b26a8a0a4d5c46fd2bdc767036895a3026779", func := "withy/withylaw13.MarkFound", spec := "markFound", unfollowed := true, recurses := true, apart := false }
def MarkFoundSaid : Prop := markFoundRow.holds Try.pinned (OpenSpec.ofChange markFoundSpec)

/-- ITS FALSE NEIGHBOUR: 'it returns false'. Refute it at one input. -/
def markFoundWrong : ChangeSpec := { name := "markFound", fn := fun _ => fun
  | [d1, d2, d3, d4, d5, d6] => { results := [.lit (.bool false)], args := [d1, d2, d3, d4, d5, d6] }
  | _ => none }
def MarkFoundWrongFalsely : Prop := markFoundRow.holds Try.pinned (OpenSpec.ofChange markFoundWrong)

/-- 'withylaw18.HistRights': WHATEVER THE INPUT: true; the input reads as it did. -/
def histRightsSpec : ChangeSpec := { name := "histRights", fn := fun _ => fun
  | [d1, d2] => { results := [.lit (.bool true)], args := [d1, d2] }
  | _ => none }
def histRightsRow : OpenClaim := { program := "ytjcppjbepndjcaa", sum := "1286531cf41e0087f3c5ab8b927b26a8a0a4d5c46fd2bdc767036895a3026779", func := "withy/withylaw18.HistRights", spec := "histRights", unfollowed := true, recurses := true, apart := false }
def HistRightsSaid : Prop := histRightsRow.holds Try.pinned (OpenSpec.ofChange histRightsSpec)

/-- ITS FALSE NEIGHBOUR: 'it returns false'. Refute it at one input. -/
def histRightsWrong : ChangeSpec := { name := "histRights", fn := fun _ => fun
  | [d1, d2] => { results := [.lit (.bool false)], args := [d1, d2] }
  | _ => none }
def HistRightsWrongFalsely : Prop := histRightsRow.holds Try.pinned (OpenSpec.ofChange histRightsWrong)

/-- 'withylaw18.HistOrders': WHATEVER THE INPUT: true; the input reads as it did. -/
def histOrdersSpec : ChangeSpec := { name := "histOrders", fn := fun _ => fun
  | [d] => { results := [.lit (.bool true)], args := [d] }
  | _ => none }
def histOrdersRow : OpenClaim := { program := "ytjcppjbepndjcaa", sum := "1286531cf41e0087f3c5ab8b927b26a8a0a4d5c46fd2bdc767036895a3026779", func := "withy/withylaw18.HistOrders", spec := "histOrders", unfollowed := true, recurses := true, apart := false }
def HistOrdersSaid : Prop := histOrdersRow.holds Try.pinned (OpenSpec.ofChange histOrdersSpec)

/-- ITS FALSE NEIGHBOUR: 'it returns false'. Refute it at one input. -/
def histOrdersWrong : ChangeSpec := { name := "histOrders", fn := fun _ => fun
  | [d] => { results := [.lit (.bool false)], args := [d] }
  | _ => none }
def HistOrdersWrongFalsely : Prop := histOrdersRow.holds Try.pinned (OpenSpec.ofChange histOrdersWrong)

/-- 'withylaw18.HistRespects': WHATEVER THE INPUT: true; the input reads as it did. -/
def histRespectsSpec : ChangeSpec := { name := "histRespects", fn := fun _ => fun
  | [d1, d2] => { results := [.lit (.bool true)], args := [d1, d2] }
  | _ => none }
def histRespectsRow : OpenClaim := { program := "ytjcppjbepndjcaa", sum := "1286531cf41e0087f3c5ab8b927b26a8a0a4d5c46fd2bdc767036895a3026779", func := "withy/withylaw18.HistRespects", spec := "histRespects", unfollowed := true, recurses := true, apart := false }
def HistRespectsSaid : Prop := histRespectsRow.holds Try.pinned (OpenSpec.ofChange histRespectsSpec)

/-- ITS FALSE NEIGHBOUR: 'it returns false'. Refute it at one input. -/
def histRespectsWrong : ChangeSpec := { name := "histRespects", fn := fun _ => fun
  | [d1, d2] => { results := [.lit (.bool false)], args := [d1, d2] }
  | _ => none }
def HistRespectsWrongFalsely : Prop := histRespectsRow.holds Try.pinned (OpenSpec.ofChange histRespectsWrong)

/-- 'withylaw18.HistPoints': WHATEVER THE INPUT: true; the input reads as it did. -/
def histPointsSpec : ChangeSpec := { name := "histPoints", fn := fun _ => fun
  | [d1, d2] => { results := [.lit (.bool true)], args := [d1, d2] }
  | _ => none }
def histPointsRow : OpenClaim := { program := "ytjcppjbepndjcaa", sum := "1286531cf41e0087f3c5ab8b927b26a8a0a4d5c46fd2bdc767036895a3026779", func := "withy/withylaw18.HistPoints", spec := "histPoints", unfollowed := true, recurses := true, apart := false }
def HistPointsSaid : Prop := histPointsRow.holds Try.pinned (OpenSpec.ofChange histPointsSpec)

/-- ITS FALSE NEIGHBOUR: 'it returns false'. Refute it at one input. -/
def histPointsWrong : ChangeSpec := { name := "histPoints", fn := fun _ => fun
  | [d1, d2] => { results := [.lit (.bool false)], args := [d1, d2] }
  | _ => none }
def HistPointsWrongFalsely : Prop := histPointsRow.holds Try.pinned (OpenSpec.ofChange histPointsWrong)

/-- 'withylaw18.HistMoves': WHATEVER THE INPUT: true; the input reads as it did. -/
def histMovesSpec : ChangeSpec := { name := "histMoves", fn := fun _ => fun
  | [d1, d2, d3] => { results := [.lit (.bool true)], args := [d1, d2, d3] }
  | _ => none }
def histMovesRow : OpenClaim := { program := "ytjcppjbepndjcaa", sum := "1286531cf41e0087f3c5ab8b927b26a8a0a4d5c46fd2bdc767036895a3026779", func := "withy/withylaw18.HistMoves", spec := "histMoves", unfollowed := true, recurses := true, apart := false }
def HistMovesSaid : Prop := histMovesRow.holds Try.pinned (OpenSpec.ofChange histMovesSpec)

/-- ITS FALSE NEIGHBOUR: 'it returns false'. Refute it at one input. -/
def histMovesWrong : ChangeSpec := { name := "histMoves", fn := fun _ => fun
  | [d1, d2, d3] => { results := [.lit (.bool false)], args := [d1, d2, d3] }
  | _ => none }
def HistMovesWrongFalsely : Prop := histMovesRow.holds Try.pinned (OpenSpec.ofChange histMovesWrong)

/- THE SECOND FORM. 'bulk': how many values and letters a reading holds, each counted each time it is reached (what is shared counts as often as it is met; a slice's spare places count too). A statement '..UptoSaid' is the law's where the arguments, and the package variables that the reading takes, are together of bulk at most 1048576: NARROWER than '..Said'. Prove '..Said' where nothing that the law and all that it calls make is longer than what came in: it says more and counts as full. Else prove '..UptoSaid'. A law counts once. -/
mutual
def uptoBulk {H : Type} : DataW H → Nat
  | .lit (.string bytes) => bytes.length + 1
  | .lit _ => 1
  | .nil => 1
  | .ptr d => uptoBulk d + 1
  | .slice elems spare => uptoBulkAll elems + uptoBulkAll spare + 1
  | .agg parts => uptoBulkAll parts + 1
  | .iface _ d => uptoBulk d + 1
  | .map entries => uptoBulkEntries entries + 1
  | .held _ => 1
def uptoBulkAll {H : Type} : List (DataW H) → Nat
  | [] => 0
  | d :: r => uptoBulk d + uptoBulkAll r
def uptoBulkEntries {H : Type} : List (Lit × DataW H) → Nat
  | [] => 0
  | x :: r => uptoBulkEntry x + uptoBulkEntries r
def uptoBulkEntry {H : Type} : Lit × DataW H → Nat
  | (.string bytes, d) => bytes.length + uptoBulk d + 1
  | (_, d) => uptoBulk d + 1
 end
def uptoSmall : (H : Type) → List (DataW H) → Bool := fun _ ds => decide (uptoBulkAll ds ≤ 1048576)
def OpenSpec.upto (s : _root_.Go.ChangeSpec) : _root_.Go.OpenSpec := { _root_.Go.OpenSpec.ofChange s with cond := some uptoSmall }

/-- 'withylaw17.ModelPlays', WHERE WHAT IT READS IS OF BULK AT MOST 1048576: true; the input reads as it did. -/
def modelPlaysUptoRow : OpenClaim := { program := "ytjcppjbepndjcaa", sum := "1286531cf41e0087f3c5ab8b927b26a8a0a4d5c46fd2bdc767036895a3026779", func := "withy/withylaw17.ModelPlays", spec := "modelPlays", apart := false, narrowed := true }
def ModelPlaysUptoSaid : Prop := modelPlaysUptoRow.holds Try.pinned (OpenSpec.upto modelPlaysSpec)

/-- 'withylaw17.ModelRefuses', WHERE WHAT IT READS IS OF BULK AT MOST 1048576: true; the input reads as it did. -/
def modelRefusesUptoRow : OpenClaim := { program := "ytjcppjbepndjcaa", sum := "1286531cf41e0087f3c5ab8b927b26a8a0a4d5c46fd2bdc767036895a3026779", func := "withy/withylaw17.ModelRefuses", spec := "modelRefuses", apart := false, narrowed := true }
def ModelRefusesUptoSaid : Prop := modelRefusesUptoRow.holds Try.pinned (OpenSpec.upto modelRefusesSpec)

/-- 'withylaw17.ModelRoom', WHERE WHAT IT READS IS OF BULK AT MOST 1048576: true; the input reads as it did. -/
def modelRoomUptoRow : OpenClaim := { program := "ytjcppjbepndjcaa", sum := "1286531cf41e0087f3c5ab8b927b26a8a0a4d5c46fd2bdc767036895a3026779", func := "withy/withylaw17.ModelRoom", spec := "modelRoom", apart := false, narrowed := true }
def ModelRoomUptoSaid : Prop := modelRoomUptoRow.holds Try.pinned (OpenSpec.upto modelRoomSpec)

/-- 'withylaw10.FieldAlone', WHERE WHAT IT READS IS OF BULK AT MOST 1048576: true; the input reads as it did. -/
def fieldAloneUptoRow : OpenClaim := { program := "ytjcppjbepndjcaa", sum := "1286531cf41e0087f3c5ab8b927b26a8a0a4d5c46fd2bdc767036895a3026779", func := "withy/withylaw10.FieldAlone", spec := "fieldAlone", apart := false, narrowed := true }
def FieldAloneUptoSaid : Prop := fieldAloneUptoRow.holds Try.pinned (OpenSpec.upto fieldAloneSpec)

/-- 'withylaw10.FieldViews', WHERE WHAT IT READS IS OF BULK AT MOST 1048576: true; the input reads as it did. -/
def fieldViewsUptoRow : OpenClaim := { program := "ytjcppjbepndjcaa", sum := "1286531cf41e0087f3c5ab8b927b26a8a0a4d5c46fd2bdc767036895a3026779", func := "withy/withylaw10.FieldViews", spec := "fieldViews", apart := false, narrowed := true }
def FieldViewsUptoSaid : Prop := fieldViewsUptoRow.holds Try.pinned (OpenSpec.upto fieldViewsSpec)

/-- 'withylaw10.FieldStamps', WHERE WHAT IT READS IS OF BULK AT MOST 1048576: true; the input reads as it did. -/
def fieldStampsUptoRow : OpenClaim := { program := "ytjcppjbepndjcaa", sum := "1286531cf41e0087f3c5ab8b927b26a8a0a4d5c46fd2bdc767036895a3026779", func := "withy/withylaw10.FieldStamps", spec := "fieldStamps", apart := false, narrowed := true }
def FieldStampsUptoSaid : Prop := fieldStampsUptoRow.holds Try.pinned (OpenSpec.upto fieldStampsSpec)

/-- 'withylaw13.MarkFound', WHERE WHAT IT READS IS OF BULK AT MOST 1048576: true; the input reads as it did. -/
def markFoundUptoRow : OpenClaim := { program := "ytjcppjbepndjcaa", sum := "1286531cf41e0087f3c5ab8b927b26a8a0a4d5c46fd2bdc767036895a3026779", func := "withy/withylaw13.MarkFound", spec := "markFound", unfollowed := true, recurses := true, apart := false, narrowed := true }
def MarkFoundUptoSaid : Prop := markFoundUptoRow.holds Try.pinned (OpenSpec.upto markFoundSpec)

/-- 'withylaw18.HistRights', WHERE WHAT IT READS IS OF BULK AT MOST 1048576: true; the input reads as it did. -/
def histRightsUptoRow : OpenClaim := { program := "ytjcppjbepndjcaa", sum := "1286531cf41e0087f3c5ab8b927b26a8a0a4d5c46fd2bdc767036895a3026779", func := "withy/withylaw18.HistRights", spec := "histRights", unfollowed := true, recurses := true, apart := false, narrowed := true }
def HistRightsUptoSaid : Prop := histRightsUptoRow.holds Try.pinned (OpenSpec.upto histRightsSpec)

/-- 'withylaw18.HistOrders', WHERE WHAT IT READS IS OF BULK AT MOST 1048576: true; the input reads as it did. -/
def histOrdersUptoRow : OpenClaim := { program := "ytjcppjbepndjcaa", sum := "1286531cf41e0087f3c5ab8b927b26a8a0a4d5c46fd2bdc767036895a3026779", func := "withy/withylaw18.HistOrders", spec := "histOrders", unfollowed := true, recurses := true, apart := false, narrowed := true }
def HistOrdersUptoSaid : Prop := histOrdersUptoRow.holds Try.pinned (OpenSpec.upto histOrdersSpec)

/-- 'withylaw18.HistRespects', WHERE WHAT IT READS IS OF BULK AT MOST 1048576: true; the input reads as it did. -/
def histRespectsUptoRow : OpenClaim := { program := "ytjcppjbepndjcaa", sum := "1286531cf41e0087f3c5ab8b927b26a8a0a4d5c46fd2bdc767036895a3026779", func := "withy/withylaw18.HistRespects", spec := "histRespects", unfollowed := true, recurses := true, apart := false, narrowed := true }
def HistRespectsUptoSaid : Prop := histRespectsUptoRow.holds Try.pinned (OpenSpec.upto histRespectsSpec)

/-- 'withylaw18.HistPoints', WHERE WHAT IT READS IS OF BULK AT MOST 1048576: true; the input reads as it did. -/
def histPointsUptoRow : OpenClaim := { program := "ytjcppjbepndjcaa", sum := "1286531cf41e0087f3c5ab8b927b26a8a0a4d5c46fd2bdc767036895a3026779", func := "withy/withylaw18.HistPoints", spec := "histPoints", unfollowed := true, recurses := true, apart := false, narrowed := true }
def HistPointsUptoSaid : Prop := histPointsUptoRow.holds Try.pinned (OpenSpec.upto histPointsSpec)

/-- 'withylaw18.HistMoves', WHERE WHAT IT READS IS OF BULK AT MOST 1048576: true; the input reads as it did. -/
def histMovesUptoRow : OpenClaim := { program := "ytjcppjbepndjcaa", sum := "1286531cf41e0087f3c5ab8b927b26a8a0a4d5c46fd2bdc767036895a3026779", func := "withy/withylaw18.HistMoves", spec := "histMoves", unfollowed := true, recurses := true, apart := false, narrowed := true }
def HistMovesUptoSaid : Prop := histMovesUptoRow.holds Try.pinned (OpenSpec.upto histMovesSpec)

end Rows
end Go.Proofs.Ytjcppjbepndjcaa
