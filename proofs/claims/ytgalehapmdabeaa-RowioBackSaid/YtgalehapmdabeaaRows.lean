/-
  No cell of these rows narrows 'for every input' (looked for: loops, veiled, ifaces, maps, wideKeys, modest, calm, conditions, laid).
  DERIVED. THE GIVEN ROWS OF THIS SEAT. 11 by the template 'for every input the law returns true; each argument reads behind the call as it read before'; 0 by the template 'total and deterministic' (their statements: YtgalehapmdabeaaTotals.lean).
  GIVEN WITH THE SEED: the statements are not yours to turn. If you find one false, say at which input.
  Laid BY PROGRAM, IN A SANDBOX (cutbox-rows.mjs): the forced cells as the released guide's own fill.sh prints them over the translation 83978bc049232698… (all of the seat's roots in one cut). By AI agents, Wed Nov 11 2026. No macro, syntax, notation, axiom, sorry.
-/
import Derived.Test.YtgalehapmdabeaaChecked
import GoSem.Claim
import GoSem.ClaimJoined
import GoSem.ClaimMapViews
import Derived.JoinedTies
import Derived.KernelRfl
namespace Go.Proofs.Ytgalehapmdabeaa
/- THE CELL 'sum', in the pinned program and in every row, IS THE sha256 OF THE DUMP (.gsa) THAT YtgalehapmdabeaaProg.lean LOADS. Nothing in Lean hashes anything: it is a label: what it is worth is what the hold of that sum in a sandbox is worth. -/
noncomputable def Try.pinned : Pinned := { name := "ytgalehapmdabeaa", sum := "83978bc049232698c41090edc794ab04b9cd2365598a285790393f281b01ac1b", checked := Try.checked }
namespace Rows
def none {H : Type} : Left H := { results := [], args := [] }

/-- 'ramekinlaw8.PageWrites': WHATEVER THE INPUT: true; the input reads as it did. -/
def pageWritesSpec : ChangeSpec := { name := "pageWrites", fn := fun _ => fun
  | [d1, d2, d3] => { results := [.lit (.bool true)], args := [d1, d2, d3] }
  | _ => none }
def pageWritesRow : OpenClaim := { program := "ytgalehapmdabeaa", sum := "83978bc049232698c41090edc794ab04b9cd2365598a285790393f281b01ac1b", func := "ramekin/ramekinlaw8.PageWrites", spec := "pageWrites", unfollowed := true, recurses := true, apart := false }
def PageWritesSaid : Prop := pageWritesRow.holds Try.pinned (OpenSpec.ofChange pageWritesSpec)

/-- ITS FALSE NEIGHBOUR: 'it returns false'. Refute it at one input. -/
def pageWritesWrong : ChangeSpec := { name := "pageWrites", fn := fun _ => fun
  | [d1, d2, d3] => { results := [.lit (.bool false)], args := [d1, d2, d3] }
  | _ => none }
def PageWritesWrongFalsely : Prop := pageWritesRow.holds Try.pinned (OpenSpec.ofChange pageWritesWrong)

/-- 'ramekinlaw8.PageMends': WHATEVER THE INPUT: true; the input reads as it did. -/
def pageMendsSpec : ChangeSpec := { name := "pageMends", fn := fun _ => fun
  | [d1, d2, d3, d4] => { results := [.lit (.bool true)], args := [d1, d2, d3, d4] }
  | _ => none }
def pageMendsRow : OpenClaim := { program := "ytgalehapmdabeaa", sum := "83978bc049232698c41090edc794ab04b9cd2365598a285790393f281b01ac1b", func := "ramekin/ramekinlaw8.PageMends", spec := "pageMends", unfollowed := true, recurses := true, apart := false }
def PageMendsSaid : Prop := pageMendsRow.holds Try.pinned (OpenSpec.ofChange pageMendsSpec)

/-- ITS FALSE NEIGHBOUR: 'it returns false'. Refute it at one input. -/
def pageMendsWrong : ChangeSpec := { name := "pageMends", fn := fun _ => fun
  | [d1, d2, d3, d4] => { results := [.lit (.bool false)], args := [d1, d2, d3, d4] }
  | _ => none }
def PageMendsWrongFalsely : Prop := pageMendsRow.holds Try.pinned (OpenSpec.ofChange pageMendsWrong)

/-- 'ramekinlaw8.PageBlank': WHATEVER THE INPUT: true; the input reads as it did. -/
def pageBlankSpec : ChangeSpec := { name := "pageBlank", fn := fun _ => fun
  | [d1, d2] => { results := [.lit (.bool true)], args := [d1, d2] }
  | _ => none }
def pageBlankRow : OpenClaim := { program := "ytgalehapmdabeaa", sum := "83978bc049232698c41090edc794ab04b9cd2365598a285790393f281b01ac1b", func := "ramekin/ramekinlaw8.PageBlank", spec := "pageBlank", unfollowed := true, recurses := true, apart := false }
def PageBlankSaid : Prop := pageBlankRow.holds Try.pinned (OpenSpec.ofChange pageBlankSpec)

/-- ITS FALSE NEIGHBOUR: 'it returns false'. Refute it at one input. -/
def pageBlankWrong : ChangeSpec := { name := "pageBlank", fn := fun _ => fun
  | [d1, d2] => { results := [.lit (.bool false)], args := [d1, d2] }
  | _ => none }
def PageBlankWrongFalsely : Prop := pageBlankRow.holds Try.pinned (OpenSpec.ofChange pageBlankWrong)

/-- 'ramekinlaw8.PageHalves': WHATEVER THE INPUT: true; the input reads as it did. -/
def pageHalvesSpec : ChangeSpec := { name := "pageHalves", fn := fun _ => fun
  | [d1, d2, d3, d4] => { results := [.lit (.bool true)], args := [d1, d2, d3, d4] }
  | _ => none }
def pageHalvesRow : OpenClaim := { program := "ytgalehapmdabeaa", sum := "83978bc049232698c41090edc794ab04b9cd2365598a285790393f281b01ac1b", func := "ramekin/ramekinlaw8.PageHalves", spec := "pageHalves", unfollowed := true, recurses := true, apart := false }
def PageHalvesSaid : Prop := pageHalvesRow.holds Try.pinned (OpenSpec.ofChange pageHalvesSpec)

/-- ITS FALSE NEIGHBOUR: 'it returns false'. Refute it at one input. -/
def pageHalvesWrong : ChangeSpec := { name := "pageHalves", fn := fun _ => fun
  | [d1, d2, d3, d4] => { results := [.lit (.bool false)], args := [d1, d2, d3, d4] }
  | _ => none }
def PageHalvesWrongFalsely : Prop := pageHalvesRow.holds Try.pinned (OpenSpec.ofChange pageHalvesWrong)

/-- 'ramekinlaw8.PageMarker': WHATEVER THE INPUT: true; the input reads as it did. -/
def pageMarkerSpec : ChangeSpec := { name := "pageMarker", fn := fun _ => fun
  | [d1, d2] => { results := [.lit (.bool true)], args := [d1, d2] }
  | _ => none }
def pageMarkerRow : OpenClaim := { program := "ytgalehapmdabeaa", sum := "83978bc049232698c41090edc794ab04b9cd2365598a285790393f281b01ac1b", func := "ramekin/ramekinlaw8.PageMarker", spec := "pageMarker", unfollowed := true, recurses := true, apart := false }
def PageMarkerSaid : Prop := pageMarkerRow.holds Try.pinned (OpenSpec.ofChange pageMarkerSpec)

/-- ITS FALSE NEIGHBOUR: 'it returns false'. Refute it at one input. -/
def pageMarkerWrong : ChangeSpec := { name := "pageMarker", fn := fun _ => fun
  | [d1, d2] => { results := [.lit (.bool false)], args := [d1, d2] }
  | _ => none }
def PageMarkerWrongFalsely : Prop := pageMarkerRow.holds Try.pinned (OpenSpec.ofChange pageMarkerWrong)

/-- 'ramekinlaw8.PageSizes': WHATEVER THE INPUT: true; the input reads as it did. -/
def pageSizesSpec : ChangeSpec := { name := "pageSizes", fn := fun _ => fun
  | [d1, d2] => { results := [.lit (.bool true)], args := [d1, d2] }
  | _ => none }
def pageSizesRow : OpenClaim := { program := "ytgalehapmdabeaa", sum := "83978bc049232698c41090edc794ab04b9cd2365598a285790393f281b01ac1b", func := "ramekin/ramekinlaw8.PageSizes", spec := "pageSizes", unfollowed := true, recurses := true, apart := false }
def PageSizesSaid : Prop := pageSizesRow.holds Try.pinned (OpenSpec.ofChange pageSizesSpec)

/-- ITS FALSE NEIGHBOUR: 'it returns false'. Refute it at one input. -/
def pageSizesWrong : ChangeSpec := { name := "pageSizes", fn := fun _ => fun
  | [d1, d2] => { results := [.lit (.bool false)], args := [d1, d2] }
  | _ => none }
def PageSizesWrongFalsely : Prop := pageSizesRow.holds Try.pinned (OpenSpec.ofChange pageSizesWrong)

/-- 'ramekinlaw8.PageTorn': WHATEVER THE INPUT: true; the input reads as it did. -/
def pageTornSpec : ChangeSpec := { name := "pageTorn", fn := fun _ => fun
  | [d1, d2] => { results := [.lit (.bool true)], args := [d1, d2] }
  | _ => none }
def pageTornRow : OpenClaim := { program := "ytgalehapmdabeaa", sum := "83978bc049232698c41090edc794ab04b9cd2365598a285790393f281b01ac1b", func := "ramekin/ramekinlaw8.PageTorn", spec := "pageTorn", unfollowed := true, recurses := true, apart := false }
def PageTornSaid : Prop := pageTornRow.holds Try.pinned (OpenSpec.ofChange pageTornSpec)

/-- ITS FALSE NEIGHBOUR: 'it returns false'. Refute it at one input. -/
def pageTornWrong : ChangeSpec := { name := "pageTorn", fn := fun _ => fun
  | [d1, d2] => { results := [.lit (.bool false)], args := [d1, d2] }
  | _ => none }
def PageTornWrongFalsely : Prop := pageTornRow.holds Try.pinned (OpenSpec.ofChange pageTornWrong)

/-- 'ramekinlaw12.RowioTorn': WHATEVER THE INPUT: true; the input reads as it did. -/
def rowioTornSpec : ChangeSpec := { name := "rowioTorn", fn := fun _ => fun
  | [d1, d2, d3] => { results := [.lit (.bool true)], args := [d1, d2, d3] }
  | _ => none }
def rowioTornRow : OpenClaim := { program := "ytgalehapmdabeaa", sum := "83978bc049232698c41090edc794ab04b9cd2365598a285790393f281b01ac1b", func := "ramekin/ramekinlaw12.RowioTorn", spec := "rowioTorn", unfollowed := true, recurses := true, apart := false }
def RowioTornSaid : Prop := rowioTornRow.holds Try.pinned (OpenSpec.ofChange rowioTornSpec)

/-- ITS FALSE NEIGHBOUR: 'it returns false'. Refute it at one input. -/
def rowioTornWrong : ChangeSpec := { name := "rowioTorn", fn := fun _ => fun
  | [d1, d2, d3] => { results := [.lit (.bool false)], args := [d1, d2, d3] }
  | _ => none }
def RowioTornWrongFalsely : Prop := rowioTornRow.holds Try.pinned (OpenSpec.ofChange rowioTornWrong)

/-- 'ramekinlaw12.RowioBack': WHATEVER THE INPUT: true; the input reads as it did. -/
def rowioBackSpec : ChangeSpec := { name := "rowioBack", fn := fun _ => fun
  | [d1, d2, d3, d4] => { results := [.lit (.bool true)], args := [d1, d2, d3, d4] }
  | _ => none }
def rowioBackRow : OpenClaim := { program := "ytgalehapmdabeaa", sum := "83978bc049232698c41090edc794ab04b9cd2365598a285790393f281b01ac1b", func := "ramekin/ramekinlaw12.RowioBack", spec := "rowioBack", unfollowed := true, recurses := true, apart := false }
def RowioBackSaid : Prop := rowioBackRow.holds Try.pinned (OpenSpec.ofChange rowioBackSpec)

/-- ITS FALSE NEIGHBOUR: 'it returns false'. Refute it at one input. -/
def rowioBackWrong : ChangeSpec := { name := "rowioBack", fn := fun _ => fun
  | [d1, d2, d3, d4] => { results := [.lit (.bool false)], args := [d1, d2, d3, d4] }
  | _ => none }
def RowioBackWrongFalsely : Prop := rowioBackRow.holds Try.pinned (OpenSpec.ofChange rowioBackWrong)

/-- 'ramekinlaw12.RowioOrder': WHATEVER THE INPUT: true; the input reads as it did. -/
def rowioOrderSpec : ChangeSpec := { name := "rowioOrder", fn := fun _ => fun
  | [d1, d2] => { results := [.lit (.bool true)], args := [d1, d2] }
  | _ => none }
def rowioOrderRow : OpenClaim := { program := "ytgalehapmdabeaa", sum := "83978bc049232698c41090edc794ab04b9cd2365598a285790393f281b01ac1b", func := "ramekin/ramekinlaw12.RowioOrder", spec := "rowioOrder", unfollowed := true, recurses := true, apart := false }
def RowioOrderSaid : Prop := rowioOrderRow.holds Try.pinned (OpenSpec.ofChange rowioOrderSpec)

/-- ITS FALSE NEIGHBOUR: 'it returns false'. Refute it at one input. -/
def rowioOrderWrong : ChangeSpec := { name := "rowioOrder", fn := fun _ => fun
  | [d1, d2] => { results := [.lit (.bool false)], args := [d1, d2] }
  | _ => none }
def RowioOrderWrongFalsely : Prop := rowioOrderRow.holds Try.pinned (OpenSpec.ofChange rowioOrderWrong)

/-- 'ramekinlaw12.RowioShape': WHATEVER THE INPUT: true; the input reads as it did. -/
def rowioShapeSpec : ChangeSpec := { name := "rowioShape", fn := fun _ => fun
  | [d1, d2, d3] => { results := [.lit (.bool true)], args := [d1, d2, d3] }
  | _ => none }
def rowioShapeRow : OpenClaim := { program := "ytgalehapmdabeaa", sum := "83978bc049232698c41090edc794ab04b9cd2365598a285790393f281b01ac1b", func := "ramekin/ramekinlaw12.RowioShape", spec := "rowioShape", unfollowed := true, recurses := true, apart := false }
def RowioShapeSaid : Prop := rowioShapeRow.holds Try.pinned (OpenSpec.ofChange rowioShapeSpec)

/-- ITS FALSE NEIGHBOUR: 'it returns false'. Refute it at one input. -/
def rowioShapeWrong : ChangeSpec := { name := "rowioShape", fn := fun _ => fun
  | [d1, d2, d3] => { results := [.lit (.bool false)], args := [d1, d2, d3] }
  | _ => none }
def RowioShapeWrongFalsely : Prop := rowioShapeRow.holds Try.pinned (OpenSpec.ofChange rowioShapeWrong)

/- THE SECOND FORM. 'bulk': how many values and letters a reading holds, each counted each time it is reached (what is shared counts as often as it is met; a slice's spare places count too). A statement '..UptoSaid' is the law's where the arguments, and the package variables that the reading takes, are together of bulk at most 1048576: NARROWER than '..Said'. Prove '..Said' where nothing that the law and all that it calls make is longer than what came in: it says more and counts as full. Else prove '..UptoSaid'. A law counts once. -/
mutual
def uptoBulk {H : Type} : DataW H → Nat
  | .lit (.string bytes) => bytes.length + 1
  | .lit _ => 1
  | .nil => 1
  | .ptr d => uptoBulk d + 1
  | .slice elems spare => uptoBulkAll elems + uptoBulkAll spare + 1
  | .agg parts => uptoBulkAll parts + 1
  | .iface _ d => uptoBulk d + 1
  | .map entries => uptoBulkEntries entries + 1
  | .held _ => 1
def uptoBulkAll {H : Type} : List (DataW H) → Nat
  | [] => 0
  | d :: r => uptoBulk d + uptoBulkAll r
def uptoBulkEntries {H : Type} : List (Lit × DataW H) → Nat
  | [] => 0
  | x :: r => uptoBulkEntry x + uptoBulkEntries r
def uptoBulkEntry {H : Type} : Lit × DataW H → Nat
  | (.string bytes, d) => bytes.length + uptoBulk d + 1
  | (_, d) => uptoBulk d + 1
 end
def uptoSmall : (H : Type) → List (DataW H) → Bool := fun _ ds => decide (uptoBulkAll ds ≤ 1048576)
def OpenSpec.upto (s : _root_.Go.ChangeSpec) : _root_.Go.OpenSpec := { _root_.Go.OpenSpec.ofChange s with cond := some uptoSmall }

/-- 'ramekinlaw8.PageWrites', WHERE WHAT IT READS IS OF BULK AT MOST 1048576: true; the input reads as it did. -/
def pageWritesUptoRow : OpenClaim := { program := "ytgalehapmdabeaa", sum := "83978bc049232698c41090edc794ab04b9cd2365598a285790393f281b01ac1b", func := "ramekin/ramekinlaw8.PageWrites", spec := "pageWrites", unfollowed := true, recurses := true, apart := false, narrowed := true }
def PageWritesUptoSaid : Prop := pageWritesUptoRow.holds Try.pinned (OpenSpec.upto pageWritesSpec)

/-- 'ramekinlaw8.PageMends', WHERE WHAT IT READS IS OF BULK AT MOST 1048576: true; the input reads as it did. -/
def pageMendsUptoRow : OpenClaim := { program := "ytgalehapmdabeaa", sum := "83978bc049232698c41090edc794ab04b9cd2365598a285790393f281b01ac1b", func := "ramekin/ramekinlaw8.PageMends", spec := "pageMends", unfollowed := true, recurses := true, apart := false, narrowed := true }
def PageMendsUptoSaid : Prop := pageMendsUptoRow.holds Try.pinned (OpenSpec.upto pageMendsSpec)

/-- 'ramekinlaw8.PageBlank', WHERE WHAT IT READS IS OF BULK AT MOST 1048576: true; the input reads as it did. -/
def pageBlankUptoRow : OpenClaim := { program := "ytgalehapmdabeaa", sum := "83978bc049232698c41090edc794ab04b9cd2365598a285790393f281b01ac1b", func := "ramekin/ramekinlaw8.PageBlank", spec := "pageBlank", unfollowed := true, recurses := true, apart := false, narrowed := true }
def PageBlankUptoSaid : Prop := pageBlankUptoRow.holds Try.pinned (OpenSpec.upto pageBlankSpec)

/-- 'ramekinlaw8.PageHalves', WHERE WHAT IT READS IS OF BULK AT MOST 1048576: true; the input reads as it did. -/
def pageHalvesUptoRow : OpenClaim := { program := "ytgalehapmdabeaa", sum := "83978bc049232698c41090edc794ab04b9cd2365598a285790393f281b01ac1b", func := "ramekin/ramekinlaw8.PageHalves", spec := "pageHalves", unfollowed := true, recurses := true, apart := false, narrowed := true }
def PageHalvesUptoSaid : Prop := pageHalvesUptoRow.holds Try.pinned (OpenSpec.upto pageHalvesSpec)

/-- 'ramekinlaw8.PageMarker', WHERE WHAT IT READS IS OF BULK AT MOST 1048576: true; the input reads as it did. -/
def pageMarkerUptoRow : OpenClaim := { program := "ytgalehapmdabeaa", sum := "83978bc049232698c41090edc794ab04b9cd2365598a285790393f281b01ac1b", func := "ramekin/ramekinlaw8.PageMarker", spec := "pageMarker", unfollowed := true, recurses := true, apart := false, narrowed := true }
def PageMarkerUptoSaid : Prop := pageMarkerUptoRow.holds Try.pinned (OpenSpec.upto pageMarkerSpec)

/-- 'ramekinlaw8.PageSizes', WHERE WHAT IT READS IS OF BULK AT MOST 1048576: true; the input reads as it did. -/
def pageSizesUptoRow : OpenClaim := { program := "ytgalehapmdabeaa", sum := "83978bc049232698c41090edc794ab04b9cd2365598a285790393f281b01ac1b", func := "ramekin/ramekinlaw8.PageSizes", spec := "pageSizes", unfollowed := true, recurses := true, apart := false, narrowed := true }
def PageSizesUptoSaid : Prop := pageSizesUptoRow.holds Try.pinned (OpenSpec.upto pageSizesSpec)

/-- 'ramekinlaw8.PageTorn', WHERE WHAT IT READS IS OF BULK AT MOST 1048576: true; the input reads as it did. -/
def pageTornUptoRow : OpenClaim := { program := "ytgalehapmdabeaa", sum := "83978bc049232698c41090edc794ab04b9cd2365598a285790393f281b01ac1b", func := "ramekin/ramekinlaw8.PageTorn", spec := "pageTorn", unfollowed := true, recurses := true, apart := false, narrowed := true }
def PageTornUptoSaid : Prop := pageTornUptoRow.holds Try.pinned (OpenSpec.upto pageTornSpec)

/-- 'ramekinlaw12.RowioTorn', WHERE WHAT IT READS IS OF BULK AT MOST 1048576: true; the input reads as it did. -/
def rowioTornUptoRow : OpenClaim := { program := "ytgalehapmdabeaa", sum := "83978bc049232698c41090edc794ab04b9cd2365598a285790393f281b01ac1b", func := "ramekin/ramekinlaw12.RowioTorn", spec := "rowioTorn", unfollowed := true, recurses := true, apart := false, narrowed := true }
def RowioTornUptoSaid : Prop := rowioTornUptoRow.holds Try.pinned (OpenSpec.upto rowioTornSpec)

/-- 'ramekinlaw12.RowioBack', WHERE WHAT IT READS IS OF BULK AT MOST 1048576: true; the input reads as it did. -/
def rowioBackUptoRow : OpenClaim := { program := "ytgalehapmdabeaa", sum := "83978bc049232698c41090edc794ab04b9cd2365598a285790393f281b01ac1b", func := "ramekin/ramekinlaw12.RowioBack", spec := "rowioBack", unfollowed := true, recurses := true, apart := false, narrowed := true }
def RowioBackUptoSaid : Prop := rowioBackUptoRow.holds Try.pinned (OpenSpec.upto rowioBackSpec)

/-- 'ramekinlaw12.RowioOrder', WHERE WHAT IT READS IS OF BULK AT MOST 1048576: true; the input reads as it did. -/
def rowioOrderUptoRow : OpenClaim := { program := "ytgalehapmdabeaa", sum := "83978bc049232698c41090edc794ab04b9cd2365598a285790393f281b01ac1b", func := "ramekin/ramekinlaw12.RowioOrder", spec := "rowioOrder", unfollowed := true, recurses := true, apart := false, narrowed := true }
def RowioOrderUptoSaid : Prop := rowioOrderUptoRow.holds Try.pinned (OpenSpec.upto rowioOrderSpec)

/-- 'ramekinlaw12.RowioShape', WHERE WHAT IT READS IS OF BULK AT MOST 1048576: true; the input reads as it did. -/
def rowioShapeUptoRow : OpenClaim := { program := "ytgalehapmdabeaa", sum := "83978bc049232698c41090edc794ab04b9cd2365598a285790393f281b01ac1b", func := "ramekin/ramekinlaw12.RowioShape", spec := "rowioShape", unfollowed := true, recurses := true, apart := false, narrowed := true }
def RowioShapeUptoSaid : Prop := rowioShapeUptoRow.holds Try.pinned (OpenSpec.upto rowioShapeSpec)

end Rows
end Go.Proofs.Ytgalehapmdabeaa
