/-
  No cell of these rows narrows 'for every input' (looked for: loops, veiled, ifaces, maps, wideKeys, modest, calm, conditions, laid).
  DERIVED. THE GIVEN ROWS OF THIS SEAT. 12 by the template 'for every input the law returns true; each argument reads behind the call as it read before'; 0 by the template 'total and deterministic' (their statements: YtnlbekdjepkhcaaTotals.lean).
  GIVEN WITH THE SEED: the statements are not yours to turn. If you find one false, say at which input.
  Laid BY PROGRAM, IN A SANDBOX (cutbox-rows.mjs): the forced cells as the released guide's own fill.sh prints them over the translation 5059c29b24c23220… (all of the seat's roots in one cut). By AI agents, Wed Nov 11 2026. No macro, syntax, notation, axiom, sorry.
-/
import Derived.Test.YtnlbekdjepkhcaaChecked
import GoSem.Claim
import GoSem.ClaimJoined
import GoSem.ClaimMapViews
import Derived.JoinedTies
import Derived.KernelRfl
namespace Go.Proofs.Ytnlbekdjepkhcaa
/- THE CELL 'sum', in the pinned program and in every row, IS THE sha256 OF THE DUMP (.gsa) THAT YtnlbekdjepkhcaaProg.lean LOADS. Nothing in Lean hashes anything: it is a label: what it is worth is what the hold of that sum in a sandbox is worth. -/
noncomputable def Try.pinned : Pinned := { name := "ytnlbekdjepkhcaa", sum := "5059c29b24c232209b0b7199594aa949ccaaabe797d67a2ad982f46071b9463d", checked := Try.checked }
namespace Rows
def none {H : Type} : Left H := { results := [], args := [] }

/-- 'ramekinlaw9.GeomSectors': WHATEVER THE INPUT: true; the input reads as it did. -/
def geomSectorsSpec : ChangeSpec := { name := "geomSectors", fn := fun _ => fun
  | [d1, d2, d3, d4] => { results := [.lit (.bool true)], args := [d1, d2, d3, d4] }
  | _ => none }
def geomSectorsRow : OpenClaim := { program := "ytnlbekdjepkhcaa", sum := "5059c29b24c232209b0b7199594aa949ccaaabe797d67a2ad982f46071b9463d", func := "ramekin/ramekinlaw9.GeomSectors", spec := "geomSectors", apart := false }
def GeomSectorsSaid : Prop := geomSectorsRow.holds Try.pinned (OpenSpec.ofChange geomSectorsSpec)

/-- ITS FALSE NEIGHBOUR: 'it returns false'. Refute it at one input. -/
def geomSectorsWrong : ChangeSpec := { name := "geomSectors", fn := fun _ => fun
  | [d1, d2, d3, d4] => { results := [.lit (.bool false)], args := [d1, d2, d3, d4] }
  | _ => none }
def GeomSectorsWrongFalsely : Prop := geomSectorsRow.holds Try.pinned (OpenSpec.ofChange geomSectorsWrong)

/-- 'ramekinlaw6.BitsApart': WHATEVER THE INPUT: true; the input reads as it did. -/
def bitsApartSpec : ChangeSpec := { name := "bitsApart", fn := fun _ => fun
  | [d1, d2] => { results := [.lit (.bool true)], args := [d1, d2] }
  | _ => none }
def bitsApartRow : OpenClaim := { program := "ytnlbekdjepkhcaa", sum := "5059c29b24c232209b0b7199594aa949ccaaabe797d67a2ad982f46071b9463d", func := "ramekin/ramekinlaw6.BitsApart", spec := "bitsApart", unfollowed := true, recurses := true, apart := false }
def BitsApartSaid : Prop := bitsApartRow.holds Try.pinned (OpenSpec.ofChange bitsApartSpec)

/-- ITS FALSE NEIGHBOUR: 'it returns false'. Refute it at one input. -/
def bitsApartWrong : ChangeSpec := { name := "bitsApart", fn := fun _ => fun
  | [d1, d2] => { results := [.lit (.bool false)], args := [d1, d2] }
  | _ => none }
def BitsApartWrongFalsely : Prop := bitsApartRow.holds Try.pinned (OpenSpec.ofChange bitsApartWrong)

/-- 'ramekinlaw6.BitsTurn': WHATEVER THE INPUT: true; the input reads as it did. -/
def bitsTurnSpec : ChangeSpec := { name := "bitsTurn", fn := fun _ => fun
  | [d1, d2] => { results := [.lit (.bool true)], args := [d1, d2] }
  | _ => none }
def bitsTurnRow : OpenClaim := { program := "ytnlbekdjepkhcaa", sum := "5059c29b24c232209b0b7199594aa949ccaaabe797d67a2ad982f46071b9463d", func := "ramekin/ramekinlaw6.BitsTurn", spec := "bitsTurn", unfollowed := true, recurses := true, apart := false }
def BitsTurnSaid : Prop := bitsTurnRow.holds Try.pinned (OpenSpec.ofChange bitsTurnSpec)

/-- ITS FALSE NEIGHBOUR: 'it returns false'. Refute it at one input. -/
def bitsTurnWrong : ChangeSpec := { name := "bitsTurn", fn := fun _ => fun
  | [d1, d2] => { results := [.lit (.bool false)], args := [d1, d2] }
  | _ => none }
def BitsTurnWrongFalsely : Prop := bitsTurnRow.holds Try.pinned (OpenSpec.ofChange bitsTurnWrong)

/-- 'ramekinlaw6.BitsPlaces': WHATEVER THE INPUT: true; the input reads as it did. -/
def bitsPlacesSpec : ChangeSpec := { name := "bitsPlaces", fn := fun _ => fun
  | [d1, d2, d3] => { results := [.lit (.bool true)], args := [d1, d2, d3] }
  | _ => none }
def bitsPlacesRow : OpenClaim := { program := "ytnlbekdjepkhcaa", sum := "5059c29b24c232209b0b7199594aa949ccaaabe797d67a2ad982f46071b9463d", func := "ramekin/ramekinlaw6.BitsPlaces", spec := "bitsPlaces", unfollowed := true, recurses := true, apart := false }
def BitsPlacesSaid : Prop := bitsPlacesRow.holds Try.pinned (OpenSpec.ofChange bitsPlacesSpec)

/-- ITS FALSE NEIGHBOUR: 'it returns false'. Refute it at one input. -/
def bitsPlacesWrong : ChangeSpec := { name := "bitsPlaces", fn := fun _ => fun
  | [d1, d2, d3] => { results := [.lit (.bool false)], args := [d1, d2, d3] }
  | _ => none }
def BitsPlacesWrongFalsely : Prop := bitsPlacesRow.holds Try.pinned (OpenSpec.ofChange bitsPlacesWrong)

/-- 'ramekinlaw6.BitsMix': WHATEVER THE INPUT: true; the input reads as it did. -/
def bitsMixSpec : ChangeSpec := { name := "bitsMix", fn := fun _ => fun
  | [d1, d2, d3] => { results := [.lit (.bool true)], args := [d1, d2, d3] }
  | _ => none }
def bitsMixRow : OpenClaim := { program := "ytnlbekdjepkhcaa", sum := "5059c29b24c232209b0b7199594aa949ccaaabe797d67a2ad982f46071b9463d", func := "ramekin/ramekinlaw6.BitsMix", spec := "bitsMix", unfollowed := true, recurses := true, apart := false }
def BitsMixSaid : Prop := bitsMixRow.holds Try.pinned (OpenSpec.ofChange bitsMixSpec)

/-- ITS FALSE NEIGHBOUR: 'it returns false'. Refute it at one input. -/
def bitsMixWrong : ChangeSpec := { name := "bitsMix", fn := fun _ => fun
  | [d1, d2, d3] => { results := [.lit (.bool false)], args := [d1, d2, d3] }
  | _ => none }
def BitsMixWrongFalsely : Prop := bitsMixRow.holds Try.pinned (OpenSpec.ofChange bitsMixWrong)

/-- 'ramekinlaw6.BitsTwice': WHATEVER THE INPUT: true; the input reads as it did. -/
def bitsTwiceSpec : ChangeSpec := { name := "bitsTwice", fn := fun _ => fun
  | [d1, d2, d3, d4] => { results := [.lit (.bool true)], args := [d1, d2, d3, d4] }
  | _ => none }
def bitsTwiceRow : OpenClaim := { program := "ytnlbekdjepkhcaa", sum := "5059c29b24c232209b0b7199594aa949ccaaabe797d67a2ad982f46071b9463d", func := "ramekin/ramekinlaw6.BitsTwice", spec := "bitsTwice", unfollowed := true, recurses := true, apart := false }
def BitsTwiceSaid : Prop := bitsTwiceRow.holds Try.pinned (OpenSpec.ofChange bitsTwiceSpec)

/-- ITS FALSE NEIGHBOUR: 'it returns false'. Refute it at one input. -/
def bitsTwiceWrong : ChangeSpec := { name := "bitsTwice", fn := fun _ => fun
  | [d1, d2, d3, d4] => { results := [.lit (.bool false)], args := [d1, d2, d3, d4] }
  | _ => none }
def BitsTwiceWrongFalsely : Prop := bitsTwiceRow.holds Try.pinned (OpenSpec.ofChange bitsTwiceWrong)

/-- 'ramekinlaw6.BitsCount': WHATEVER THE INPUT: true; the input reads as it did. -/
def bitsCountSpec : ChangeSpec := { name := "bitsCount", fn := fun _ => fun
  | [d1, d2] => { results := [.lit (.bool true)], args := [d1, d2] }
  | _ => none }
def bitsCountRow : OpenClaim := { program := "ytnlbekdjepkhcaa", sum := "5059c29b24c232209b0b7199594aa949ccaaabe797d67a2ad982f46071b9463d", func := "ramekin/ramekinlaw6.BitsCount", spec := "bitsCount", unfollowed := true, recurses := true, apart := false }
def BitsCountSaid : Prop := bitsCountRow.holds Try.pinned (OpenSpec.ofChange bitsCountSpec)

/-- ITS FALSE NEIGHBOUR: 'it returns false'. Refute it at one input. -/
def bitsCountWrong : ChangeSpec := { name := "bitsCount", fn := fun _ => fun
  | [d1, d2] => { results := [.lit (.bool false)], args := [d1, d2] }
  | _ => none }
def BitsCountWrongFalsely : Prop := bitsCountRow.holds Try.pinned (OpenSpec.ofChange bitsCountWrong)

/-- 'ramekinlaw6.BitsAll': WHATEVER THE INPUT: true; the input reads as it did. -/
def bitsAllSpec : ChangeSpec := { name := "bitsAll", fn := fun _ => fun
  | [d1, d2, d3, d4] => { results := [.lit (.bool true)], args := [d1, d2, d3, d4] }
  | _ => none }
def bitsAllRow : OpenClaim := { program := "ytnlbekdjepkhcaa", sum := "5059c29b24c232209b0b7199594aa949ccaaabe797d67a2ad982f46071b9463d", func := "ramekin/ramekinlaw6.BitsAll", spec := "bitsAll", unfollowed := true, recurses := true, apart := false }
def BitsAllSaid : Prop := bitsAllRow.holds Try.pinned (OpenSpec.ofChange bitsAllSpec)

/-- ITS FALSE NEIGHBOUR: 'it returns false'. Refute it at one input. -/
def bitsAllWrong : ChangeSpec := { name := "bitsAll", fn := fun _ => fun
  | [d1, d2, d3, d4] => { results := [.lit (.bool false)], args := [d1, d2, d3, d4] }
  | _ => none }
def BitsAllWrongFalsely : Prop := bitsAllRow.holds Try.pinned (OpenSpec.ofChange bitsAllWrong)

/-- 'ramekinlaw9.GeomAll': WHATEVER THE INPUT: true; the input reads as it did. -/
def geomAllSpec : ChangeSpec := { name := "geomAll", fn := fun _ => fun
  | [d1, d2, d3, d4] => { results := [.lit (.bool true)], args := [d1, d2, d3, d4] }
  | _ => none }
def geomAllRow : OpenClaim := { program := "ytnlbekdjepkhcaa", sum := "5059c29b24c232209b0b7199594aa949ccaaabe797d67a2ad982f46071b9463d", func := "ramekin/ramekinlaw9.GeomAll", spec := "geomAll", unfollowed := true, recurses := true, apart := false }
def GeomAllSaid : Prop := geomAllRow.holds Try.pinned (OpenSpec.ofChange geomAllSpec)

/-- ITS FALSE NEIGHBOUR: 'it returns false'. Refute it at one input. -/
def geomAllWrong : ChangeSpec := { name := "geomAll", fn := fun _ => fun
  | [d1, d2, d3, d4] => { results := [.lit (.bool false)], args := [d1, d2, d3, d4] }
  | _ => none }
def GeomAllWrongFalsely : Prop := geomAllRow.holds Try.pinned (OpenSpec.ofChange geomAllWrong)

/-- 'ramekinlaw9.GeomOnce': WHATEVER THE INPUT: true; the input reads as it did. -/
def geomOnceSpec : ChangeSpec := { name := "geomOnce", fn := fun _ => fun
  | [d1, d2] => { results := [.lit (.bool true)], args := [d1, d2] }
  | _ => none }
def geomOnceRow : OpenClaim := { program := "ytnlbekdjepkhcaa", sum := "5059c29b24c232209b0b7199594aa949ccaaabe797d67a2ad982f46071b9463d", func := "ramekin/ramekinlaw9.GeomOnce", spec := "geomOnce", unfollowed := true, recurses := true, apart := false }
def GeomOnceSaid : Prop := geomOnceRow.holds Try.pinned (OpenSpec.ofChange geomOnceSpec)

/-- ITS FALSE NEIGHBOUR: 'it returns false'. Refute it at one input. -/
def geomOnceWrong : ChangeSpec := { name := "geomOnce", fn := fun _ => fun
  | [d1, d2] => { results := [.lit (.bool false)], args := [d1, d2] }
  | _ => none }
def GeomOnceWrongFalsely : Prop := geomOnceRow.holds Try.pinned (OpenSpec.ofChange geomOnceWrong)

/-- 'ramekinlaw9.GeomBounds': WHATEVER THE INPUT: true; the input reads as it did. -/
def geomBoundsSpec : ChangeSpec := { name := "geomBounds", fn := fun _ => fun
  | [d1, d2, d3] => { results := [.lit (.bool true)], args := [d1, d2, d3] }
  | _ => none }
def geomBoundsRow : OpenClaim := { program := "ytnlbekdjepkhcaa", sum := "5059c29b24c232209b0b7199594aa949ccaaabe797d67a2ad982f46071b9463d", func := "ramekin/ramekinlaw9.GeomBounds", spec := "geomBounds", unfollowed := true, recurses := true, apart := false }
def GeomBoundsSaid : Prop := geomBoundsRow.holds Try.pinned (OpenSpec.ofChange geomBoundsSpec)

/-- ITS FALSE NEIGHBOUR: 'it returns false'. Refute it at one input. -/
def geomBoundsWrong : ChangeSpec := { name := "geomBounds", fn := fun _ => fun
  | [d1, d2, d3] => { results := [.lit (.bool false)], args := [d1, d2, d3] }
  | _ => none }
def GeomBoundsWrongFalsely : Prop := geomBoundsRow.holds Try.pinned (OpenSpec.ofChange geomBoundsWrong)

/-- 'ramekinlaw9.GeomBad': WHATEVER THE INPUT: true; the input reads as it did. -/
def geomBadSpec : ChangeSpec := { name := "geomBad", fn := fun _ => fun
  | [d1, d2, d3] => { results := [.lit (.bool true)], args := [d1, d2, d3] }
  | _ => none }
def geomBadRow : OpenClaim := { program := "ytnlbekdjepkhcaa", sum := "5059c29b24c232209b0b7199594aa949ccaaabe797d67a2ad982f46071b9463d", func := "ramekin/ramekinlaw9.GeomBad", spec := "geomBad", unfollowed := true, recurses := true, apart := false }
def GeomBadSaid : Prop := geomBadRow.holds Try.pinned (OpenSpec.ofChange geomBadSpec)

/-- ITS FALSE NEIGHBOUR: 'it returns false'. Refute it at one input. -/
def geomBadWrong : ChangeSpec := { name := "geomBad", fn := fun _ => fun
  | [d1, d2, d3] => { results := [.lit (.bool false)], args := [d1, d2, d3] }
  | _ => none }
def GeomBadWrongFalsely : Prop := geomBadRow.holds Try.pinned (OpenSpec.ofChange geomBadWrong)

/- THE SECOND FORM. 'bulk': how many values and letters a reading holds, each counted each time it is reached (what is shared counts as often as it is met; a slice's spare places count too). A statement '..UptoSaid' is the law's where the arguments, and the package variables that the reading takes, are together of bulk at most 1048576: NARROWER than '..Said'. Prove '..Said' where nothing that the law and all that it calls make is longer than what came in: it says more and counts as full. Else prove '..UptoSaid'. A law counts once. -/
mutual
def uptoBulk {H : Type} : DataW H → Nat
  | .lit (.string bytes) => bytes.length + 1
  | .lit _ => 1
  | .nil => 1
  | .ptr d => uptoBulk d + 1
  | .slice elems spare => uptoBulkAll elems + uptoBulkAll spare + 1
  | .agg parts => uptoBulkAll parts + 1
  | .iface _ d => uptoBulk d + 1
  | .map entries => uptoBulkEntries entries + 1
  | .held _ => 1
def uptoBulkAll {H : Type} : List (DataW H) → Nat
  | [] => 0
  | d :: r => uptoBulk d + uptoBulkAll r
def uptoBulkEntries {H : Type} : List (Lit × DataW H) → Nat
  | [] => 0
  | x :: r => uptoBulkEntry x + uptoBulkEntries r
def uptoBulkEntry {H : Type} : Lit × DataW H → Nat
  | (.string bytes, d) => bytes.length + uptoBulk d + 1
  | (_, d) => uptoBulk d + 1
 end
def uptoSmall : (H : Type) → List (DataW H) → Bool := fun _ ds => decide (uptoBulkAll ds ≤ 1048576)
def OpenSpec.upto (s : _root_.Go.ChangeSpec) : _root_.Go.OpenSpec := { _root_.Go.OpenSpec.ofChange s with cond := some uptoSmall }

/-- 'ramekinlaw9.GeomSectors', WHERE WHAT IT READS IS OF BULK AT MOST 1048576: true; the input reads as it did. -/
def geomSectorsUptoRow : OpenClaim := { program := "ytnlbekdjepkhcaa", sum := "5059c29b24c232209b0b7199594aa949ccaaabe797d67a2ad982f46071b9463d", func := "ramekin/ramekinlaw9.GeomSectors", spec := "geomSectors", apart := false, narrowed := true }
def GeomSectorsUptoSaid : Prop := geomSectorsUptoRow.holds Try.pinned (OpenSpec.upto geomSectorsSpec)

/-- 'ramekinlaw6.BitsApart', WHERE WHAT IT READS IS OF BULK AT MOST 1048576: true; the input reads as it did. -/
def bitsApartUptoRow : OpenClaim := { program := "ytnlbekdjepkhcaa", sum := "5059c29b24c232209b0b7199594aa949ccaaabe797d67a2ad982f46071b9463d", func := "ramekin/ramekinlaw6.BitsApart", spec := "bitsApart", unfollowed := true, recurses := true, apart := false, narrowed := true }
def BitsApartUptoSaid : Prop := bitsApartUptoRow.holds Try.pinned (OpenSpec.upto bitsApartSpec)

/-- 'ramekinlaw6.BitsTurn', WHERE WHAT IT READS IS OF BULK AT MOST 1048576: true; the input reads as it did. -/
def bitsTurnUptoRow : OpenClaim := { program := "ytnlbekdjepkhcaa", sum := "5059c29b24c232209b0b7199594aa949ccaaabe797d67a2ad982f46071b9463d", func := "ramekin/ramekinlaw6.BitsTurn", spec := "bitsTurn", unfollowed := true, recurses := true, apart := false, narrowed := true }
def BitsTurnUptoSaid : Prop := bitsTurnUptoRow.holds Try.pinned (OpenSpec.upto bitsTurnSpec)

/-- 'ramekinlaw6.BitsPlaces', WHERE WHAT IT READS IS OF BULK AT MOST 1048576: true; the input reads as it did. -/
def bitsPlacesUptoRow : OpenClaim := { program := "ytnlbekdjepkhcaa", sum := "5059c29b24c232209b0b7199594aa949ccaaabe797d67a2ad982f46071b9463d", func := "ramekin/ramekinlaw6.BitsPlaces", spec := "bitsPlaces", unfollowed := true, recurses := true, apart := false, narrowed := true }
def BitsPlacesUptoSaid : Prop := bitsPlacesUptoRow.holds Try.pinned (OpenSpec.upto bitsPlacesSpec)

/-- 'ramekinlaw6.BitsMix', WHERE WHAT IT READS IS OF BULK AT MOST 1048576: true; the input reads as it did. -/
def bitsMixUptoRow : OpenClaim := { program := "ytnlbekdjepkhcaa", sum := "5059c29b24c232209b0b7199594aa949ccaaabe797d67a2ad982f46071b9463d", func := "ramekin/ramekinlaw6.BitsMix", spec := "bitsMix", unfollowed := true, recurses := true, apart := false, narrowed := true }
def BitsMixUptoSaid : Prop := bitsMixUptoRow.holds Try.pinned (OpenSpec.upto bitsMixSpec)

/-- 'ramekinlaw6.BitsTwice', WHERE WHAT IT READS IS OF BULK AT MOST 1048576: true; the input reads as it did. -/
def bitsTwiceUptoRow : OpenClaim := { program := "ytnlbekdjepkhcaa", sum := "5059c29b24c232209b0b7199594aa949ccaaabe797d67a2ad982f46071b9463d", func := "ramekin/ramekinlaw6.BitsTwice", spec := "bitsTwice", unfollowed := true, recurses := true, apart := false, narrowed := true }
def BitsTwiceUptoSaid : Prop := bitsTwiceUptoRow.holds Try.pinned (OpenSpec.upto bitsTwiceSpec)

/-- 'ramekinlaw6.BitsCount', WHERE WHAT IT READS IS OF BULK AT MOST 1048576: true; the input reads as it did. -/
def bitsCountUptoRow : OpenClaim := { program := "ytnlbekdjepkhcaa", sum := "5059c29b24c232209b0b7199594aa949ccaaabe797d67a2ad982f46071b9463d", func := "ramekin/ramekinlaw6.BitsCount", spec := "bitsCount", unfollowed := true, recurses := true, apart := false, narrowed := true }
def BitsCountUptoSaid : Prop := bitsCountUptoRow.holds Try.pinned (OpenSpec.upto bitsCountSpec)

/-- 'ramekinlaw6.BitsAll', WHERE WHAT IT READS IS OF BULK AT MOST 1048576: true; the input reads as it did. -/
def bitsAllUptoRow : OpenClaim := { program := "ytnlbekdjepkhcaa", sum := "5059c29b24c232209b0b7199594aa949ccaaabe797d67a2ad982f46071b9463d", func := "ramekin/ramekinlaw6.BitsAll", spec := "bitsAll", unfollowed := true, recurses := true, apart := false, narrowed := true }
def BitsAllUptoSaid : Prop := bitsAllUptoRow.holds Try.pinned (OpenSpec.upto bitsAllSpec)

/-- 'ramekinlaw9.GeomAll', WHERE WHAT IT READS IS OF BULK AT MOST 1048576: true; the input reads as it did. -/
def geomAllUptoRow : OpenClaim := { program := "ytnlbekdjepkhcaa", sum := "5059c29b24c232209b0b7199594aa949ccaaabe797d67a2ad982f46071b9463d", func := "ramekin/ramekinlaw9.GeomAll", spec := "geomAll", unfollowed := true, recurses := true, apart := false, narrowed := true }
def GeomAllUptoSaid : Prop := geomAllUptoRow.holds Try.pinned (OpenSpec.upto geomAllSpec)

/-- 'ramekinlaw9.GeomOnce', WHERE WHAT IT READS IS OF BULK AT MOST 1048576: true; the input reads as it did. -/
def geomOnceUptoRow : OpenClaim := { program := "ytnlbekdjepkhcaa", sum := "5059c29b24c232209b0b7199594aa949ccaaabe797d67a2ad982f46071b9463d", func := "ramekin/ramekinlaw9.GeomOnce", spec := "geomOnce", unfollowed := true, recurses := true, apart := false, narrowed := true }
def GeomOnceUptoSaid : Prop := geomOnceUptoRow.holds Try.pinned (OpenSpec.upto geomOnceSpec)

/-- 'ramekinlaw9.GeomBounds', WHERE WHAT IT READS IS OF BULK AT MOST 1048576: true; the input reads as it did. -/
def geomBoundsUptoRow : OpenClaim := { program := "ytnlbekdjepkhcaa", sum := "5059c29b24c232209b0b7199594aa949ccaaabe797d67a2ad982f46071b9463d", func := "ramekin/ramekinlaw9.GeomBounds", spec := "geomBounds", unfollowed := true, recurses := true, apart := false, narrowed := true }
def GeomBoundsUptoSaid : Prop := geomBoundsUptoRow.holds Try.pinned (OpenSpec.upto geomBoundsSpec)

/-- 'ramekinlaw9.GeomBad', WHERE WHAT IT READS IS OF BULK AT MOST 1048576: true; the input reads as it did. -/
def geomBadUptoRow : OpenClaim := { program := "ytnlbekdjepkhcaa", sum := "5059c29b24c232209b0b7199594aa949ccaaabe797d67a2ad982f46071b9463d", func := "ramekin/ramekinlaw9.GeomBad", spec := "geomBad", unfollowed := true, recurses := true, apart := false, narrowed := true }
def GeomBadUptoSaid : Prop := geomBadUptoRow.holds Try.pinned (OpenSpec.upto geomBadSpec)

end Rows
end Go.Proofs.Ytnlbekdjepkhcaa
