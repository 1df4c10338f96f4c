/-
  No cell of these rows narrows 'for every input' (looked for: loops, veiled, ifaces, maps, wideKeys, modest, calm, conditions, laid).
  DERIVED. THE GIVEN ROWS OF THIS SEAT. 8 by the template 'for every input the law returns true; each argument reads behind the call as it read before'; 0 by the template 'total and deterministic' (their statements: YtpamdlnobekihaaTotals.lean).
  GIVEN WITH THE SEED: the statements are not yours to turn. If you find one false, say at which input.
  Laid BY PROGRAM, IN A SANDBOX (cutbox-rows.mjs): the forced cells as the released guide's own fill.sh prints them over the translation 52881d7d55b246a3… (all of the seat's roots in one cut). By AI agents, Wed Nov 11 2026. No macro, syntax, notation, axiom, sorry.
-/
import Derived.Test.YtpamdlnobekihaaChecked
import GoSem.Claim
import GoSem.ClaimJoined
import GoSem.ClaimMapViews
import Derived.JoinedTies
import Derived.KernelRfl
namespace Go.Proofs.Ytpamdlnobekihaa
/- THE CELL 'sum', in the pinned program and in every row, IS THE sha256 OF THE DUMP (.gsa) THAT YtpamdlnobekihaaProg.lean LOADS. Nothing in Lean hashes anything: it is a label: what it is worth is what the hold of that sum in a sandbox is worth. -/
noncomputable def Try.pinned : Pinned := { name := "ytpamdlnobekihaa", sum := "52881d7d55b246a3db6fda402eef55892d1c454cbb5f9458e144b278f72e2fbe", checked := Try.checked }
namespace Rows
def none {H : Type} : Left H := { results := [], args := [] }

/-- 'ramekinlaw7.NandMakes': WHATEVER THE INPUT: true; the input reads as it did. -/
def nandMakesSpec : ChangeSpec := { name := "nandMakes", fn := fun _ => fun
  | [d1, d2, d3, d4] => { results := [.lit (.bool true)], args := [d1, d2, d3, d4] }
  | _ => none }
def nandMakesRow : OpenClaim := { program := "ytpamdlnobekihaa", sum := "52881d7d55b246a3db6fda402eef55892d1c454cbb5f9458e144b278f72e2fbe", func := "ramekin/ramekinlaw7.NandMakes", spec := "nandMakes", apart := false }
def NandMakesSaid : Prop := nandMakesRow.holds Try.pinned (OpenSpec.ofChange nandMakesSpec)

/-- ITS FALSE NEIGHBOUR: 'it returns false'. Refute it at one input. -/
def nandMakesWrong : ChangeSpec := { name := "nandMakes", fn := fun _ => fun
  | [d1, d2, d3, d4] => { results := [.lit (.bool false)], args := [d1, d2, d3, d4] }
  | _ => none }
def NandMakesWrongFalsely : Prop := nandMakesRow.holds Try.pinned (OpenSpec.ofChange nandMakesWrong)

/-- 'ramekinlaw7.NandNoise': WHATEVER THE INPUT: true; the input reads as it did. -/
def nandNoiseSpec : ChangeSpec := { name := "nandNoise", fn := fun _ => fun
  | [d1, d2, d3, d4] => { results := [.lit (.bool true)], args := [d1, d2, d3, d4] }
  | _ => none }
def nandNoiseRow : OpenClaim := { program := "ytpamdlnobekihaa", sum := "52881d7d55b246a3db6fda402eef55892d1c454cbb5f9458e144b278f72e2fbe", func := "ramekin/ramekinlaw7.NandNoise", spec := "nandNoise", apart := false }
def NandNoiseSaid : Prop := nandNoiseRow.holds Try.pinned (OpenSpec.ofChange nandNoiseSpec)

/-- ITS FALSE NEIGHBOUR: 'it returns false'. Refute it at one input. -/
def nandNoiseWrong : ChangeSpec := { name := "nandNoise", fn := fun _ => fun
  | [d1, d2, d3, d4] => { results := [.lit (.bool false)], args := [d1, d2, d3, d4] }
  | _ => none }
def NandNoiseWrongFalsely : Prop := nandNoiseRow.holds Try.pinned (OpenSpec.ofChange nandNoiseWrong)

/-- 'ramekinlaw7.NandOrder': WHATEVER THE INPUT: true; the input reads as it did. -/
def nandOrderSpec : ChangeSpec := { name := "nandOrder", fn := fun _ => fun
  | [d1, d2] => { results := [.lit (.bool true)], args := [d1, d2] }
  | _ => none }
def nandOrderRow : OpenClaim := { program := "ytpamdlnobekihaa", sum := "52881d7d55b246a3db6fda402eef55892d1c454cbb5f9458e144b278f72e2fbe", func := "ramekin/ramekinlaw7.NandOrder", spec := "nandOrder", unfollowed := true, recurses := true, apart := false }
def NandOrderSaid : Prop := nandOrderRow.holds Try.pinned (OpenSpec.ofChange nandOrderSpec)

/-- ITS FALSE NEIGHBOUR: 'it returns false'. Refute it at one input. -/
def nandOrderWrong : ChangeSpec := { name := "nandOrder", fn := fun _ => fun
  | [d1, d2] => { results := [.lit (.bool false)], args := [d1, d2] }
  | _ => none }
def NandOrderWrongFalsely : Prop := nandOrderRow.holds Try.pinned (OpenSpec.ofChange nandOrderWrong)

/-- 'ramekinlaw7.NandTorn': WHATEVER THE INPUT: true; the input reads as it did. -/
def nandTornSpec : ChangeSpec := { name := "nandTorn", fn := fun _ => fun
  | [d1, d2, d3] => { results := [.lit (.bool true)], args := [d1, d2, d3] }
  | _ => none }
def nandTornRow : OpenClaim := { program := "ytpamdlnobekihaa", sum := "52881d7d55b246a3db6fda402eef55892d1c454cbb5f9458e144b278f72e2fbe", func := "ramekin/ramekinlaw7.NandTorn", spec := "nandTorn", unfollowed := true, recurses := true, apart := false }
def NandTornSaid : Prop := nandTornRow.holds Try.pinned (OpenSpec.ofChange nandTornSpec)

/-- ITS FALSE NEIGHBOUR: 'it returns false'. Refute it at one input. -/
def nandTornWrong : ChangeSpec := { name := "nandTorn", fn := fun _ => fun
  | [d1, d2, d3] => { results := [.lit (.bool false)], args := [d1, d2, d3] }
  | _ => none }
def NandTornWrongFalsely : Prop := nandTornRow.holds Try.pinned (OpenSpec.ofChange nandTornWrong)

/-- 'ramekinlaw7.NandStops': WHATEVER THE INPUT: true; the input reads as it did. -/
def nandStopsSpec : ChangeSpec := { name := "nandStops", fn := fun _ => fun
  | [d1, d2] => { results := [.lit (.bool true)], args := [d1, d2] }
  | _ => none }
def nandStopsRow : OpenClaim := { program := "ytpamdlnobekihaa", sum := "52881d7d55b246a3db6fda402eef55892d1c454cbb5f9458e144b278f72e2fbe", func := "ramekin/ramekinlaw7.NandStops", spec := "nandStops", unfollowed := true, recurses := true, apart := false }
def NandStopsSaid : Prop := nandStopsRow.holds Try.pinned (OpenSpec.ofChange nandStopsSpec)

/-- ITS FALSE NEIGHBOUR: 'it returns false'. Refute it at one input. -/
def nandStopsWrong : ChangeSpec := { name := "nandStops", fn := fun _ => fun
  | [d1, d2] => { results := [.lit (.bool false)], args := [d1, d2] }
  | _ => none }
def NandStopsWrongFalsely : Prop := nandStopsRow.holds Try.pinned (OpenSpec.ofChange nandStopsWrong)

/-- 'ramekinlaw7.NandBad': WHATEVER THE INPUT: true; the input reads as it did. -/
def nandBadSpec : ChangeSpec := { name := "nandBad", fn := fun _ => fun
  | [d1, d2, d3, d4] => { results := [.lit (.bool true)], args := [d1, d2, d3, d4] }
  | _ => none }
def nandBadRow : OpenClaim := { program := "ytpamdlnobekihaa", sum := "52881d7d55b246a3db6fda402eef55892d1c454cbb5f9458e144b278f72e2fbe", func := "ramekin/ramekinlaw7.NandBad", spec := "nandBad", unfollowed := true, recurses := true, apart := false }
def NandBadSaid : Prop := nandBadRow.holds Try.pinned (OpenSpec.ofChange nandBadSpec)

/-- ITS FALSE NEIGHBOUR: 'it returns false'. Refute it at one input. -/
def nandBadWrong : ChangeSpec := { name := "nandBad", fn := fun _ => fun
  | [d1, d2, d3, d4] => { results := [.lit (.bool false)], args := [d1, d2, d3, d4] }
  | _ => none }
def NandBadWrongFalsely : Prop := nandBadRow.holds Try.pinned (OpenSpec.ofChange nandBadWrong)

/-- 'ramekinlaw7.NandErase': WHATEVER THE INPUT: true; the input reads as it did. -/
def nandEraseSpec : ChangeSpec := { name := "nandErase", fn := fun _ => fun
  | [d1, d2, d3] => { results := [.lit (.bool true)], args := [d1, d2, d3] }
  | _ => none }
def nandEraseRow : OpenClaim := { program := "ytpamdlnobekihaa", sum := "52881d7d55b246a3db6fda402eef55892d1c454cbb5f9458e144b278f72e2fbe", func := "ramekin/ramekinlaw7.NandErase", spec := "nandErase", unfollowed := true, recurses := true, apart := false }
def NandEraseSaid : Prop := nandEraseRow.holds Try.pinned (OpenSpec.ofChange nandEraseSpec)

/-- ITS FALSE NEIGHBOUR: 'it returns false'. Refute it at one input. -/
def nandEraseWrong : ChangeSpec := { name := "nandErase", fn := fun _ => fun
  | [d1, d2, d3] => { results := [.lit (.bool false)], args := [d1, d2, d3] }
  | _ => none }
def NandEraseWrongFalsely : Prop := nandEraseRow.holds Try.pinned (OpenSpec.ofChange nandEraseWrong)

/-- 'ramekinlaw7.NandPlays': WHATEVER THE INPUT: true; the input reads as it did. -/
def nandPlaysSpec : ChangeSpec := { name := "nandPlays", fn := fun _ => fun
  | [d1, d2, d3] => { results := [.lit (.bool true)], args := [d1, d2, d3] }
  | _ => none }
def nandPlaysRow : OpenClaim := { program := "ytpamdlnobekihaa", sum := "52881d7d55b246a3db6fda402eef55892d1c454cbb5f9458e144b278f72e2fbe", func := "ramekin/ramekinlaw7.NandPlays", spec := "nandPlays", unfollowed := true, recurses := true, apart := false }
def NandPlaysSaid : Prop := nandPlaysRow.holds Try.pinned (OpenSpec.ofChange nandPlaysSpec)

/-- ITS FALSE NEIGHBOUR: 'it returns false'. Refute it at one input. -/
def nandPlaysWrong : ChangeSpec := { name := "nandPlays", fn := fun _ => fun
  | [d1, d2, d3] => { results := [.lit (.bool false)], args := [d1, d2, d3] }
  | _ => none }
def NandPlaysWrongFalsely : Prop := nandPlaysRow.holds Try.pinned (OpenSpec.ofChange nandPlaysWrong)

/- THE SECOND FORM. 'bulk': how many values and letters a reading holds, each counted each time it is reached (what is shared counts as often as it is met; a slice's spare places count too). A statement '..UptoSaid' is the law's where the arguments, and the package variables that the reading takes, are together of bulk at most 1048576: NARROWER than '..Said'. Prove '..Said' where nothing that the law and all that it calls make is longer than what came in: it says more and counts as full. Else prove '..UptoSaid'. A law counts once. -/
mutual
def uptoBulk {H : Type} : DataW H → Nat
  | .lit (.string bytes) => bytes.length + 1
  | .lit _ => 1
  | .nil => 1
  | .ptr d => uptoBulk d + 1
  | .slice elems spare => uptoBulkAll elems + uptoBulkAll spare + 1
  | .agg parts => uptoBulkAll parts + 1
  | .iface _ d => uptoBulk d + 1
  | .map entries => uptoBulkEntries entries + 1
  | .held _ => 1
def uptoBulkAll {H : Type} : List (DataW H) → Nat
  | [] => 0
  | d :: r => uptoBulk d + uptoBulkAll r
def uptoBulkEntries {H : Type} : List (Lit × DataW H) → Nat
  | [] => 0
  | x :: r => uptoBulkEntry x + uptoBulkEntries r
def uptoBulkEntry {H : Type} : Lit × DataW H → Nat
  | (.string bytes, d) => bytes.length + uptoBulk d + 1
  | (_, d) => uptoBulk d + 1
 end
def uptoSmall : (H : Type) → List (DataW H) → Bool := fun _ ds => decide (uptoBulkAll ds ≤ 1048576)
def OpenSpec.upto (s : _root_.Go.ChangeSpec) : _root_.Go.OpenSpec := { _root_.Go.OpenSpec.ofChange s with cond := some uptoSmall }

/-- 'ramekinlaw7.NandMakes', WHERE WHAT IT READS IS OF BULK AT MOST 1048576: true; the input reads as it did. -/
def nandMakesUptoRow : OpenClaim := { program := "ytpamdlnobekihaa", sum := "52881d7d55b246a3db6fda402eef55892d1c454cbb5f9458e144b278f72e2fbe", func := "ramekin/ramekinlaw7.NandMakes", spec := "nandMakes", apart := false, narrowed := true }
def NandMakesUptoSaid : Prop := nandMakesUptoRow.holds Try.pinned (OpenSpec.upto nandMakesSpec)

/-- 'ramekinlaw7.NandNoise', WHERE WHAT IT READS IS OF BULK AT MOST 1048576: true; the input reads as it did. -/
def nandNoiseUptoRow : OpenClaim := { program := "ytpamdlnobekihaa", sum := "52881d7d55b246a3db6fda402eef55892d1c454cbb5f9458e144b278f72e2fbe", func := "ramekin/ramekinlaw7.NandNoise", spec := "nandNoise", apart := false, narrowed := true }
def NandNoiseUptoSaid : Prop := nandNoiseUptoRow.holds Try.pinned (OpenSpec.upto nandNoiseSpec)

/-- 'ramekinlaw7.NandOrder', WHERE WHAT IT READS IS OF BULK AT MOST 1048576: true; the input reads as it did. -/
def nandOrderUptoRow : OpenClaim := { program := "ytpamdlnobekihaa", sum := "52881d7d55b246a3db6fda402eef55892d1c454cbb5f9458e144b278f72e2fbe", func := "ramekin/ramekinlaw7.NandOrder", spec := "nandOrder", unfollowed := true, recurses := true, apart := false, narrowed := true }
def NandOrderUptoSaid : Prop := nandOrderUptoRow.holds Try.pinned (OpenSpec.upto nandOrderSpec)

/-- 'ramekinlaw7.NandTorn', WHERE WHAT IT READS IS OF BULK AT MOST 1048576: true; the input reads as it did. -/
def nandTornUptoRow : OpenClaim := { program := "ytpamdlnobekihaa", sum := "52881d7d55b246a3db6fda402eef55892d1c454cbb5f9458e144b278f72e2fbe", func := "ramekin/ramekinlaw7.NandTorn", spec := "nandTorn", unfollowed := true, recurses := true, apart := false, narrowed := true }
def NandTornUptoSaid : Prop := nandTornUptoRow.holds Try.pinned (OpenSpec.upto nandTornSpec)

/-- 'ramekinlaw7.NandStops', WHERE WHAT IT READS IS OF BULK AT MOST 1048576: true; the input reads as it did. -/
def nandStopsUptoRow : OpenClaim := { program := "ytpamdlnobekihaa", sum := "52881d7d55b246a3db6fda402eef55892d1c454cbb5f9458e144b278f72e2fbe", func := "ramekin/ramekinlaw7.NandStops", spec := "nandStops", unfollowed := true, recurses := true, apart := false, narrowed := true }
def NandStopsUptoSaid : Prop := nandStopsUptoRow.holds Try.pinned (OpenSpec.upto nandStopsSpec)

/-- 'ramekinlaw7.NandBad', WHERE WHAT IT READS IS OF BULK AT MOST 1048576: true; the input reads as it did. -/
def nandBadUptoRow : OpenClaim := { program := "ytpamdlnobekihaa", sum := "52881d7d55b246a3db6fda402eef55892d1c454cbb5f9458e144b278f72e2fbe", func := "ramekin/ramekinlaw7.NandBad", spec := "nandBad", unfollowed := true, recurses := true, apart := false, narrowed := true }
def NandBadUptoSaid : Prop := nandBadUptoRow.holds Try.pinned (OpenSpec.upto nandBadSpec)

/-- 'ramekinlaw7.NandErase', WHERE WHAT IT READS IS OF BULK AT MOST 1048576: true; the input reads as it did. -/
def nandEraseUptoRow : OpenClaim := { program := "ytpamdlnobekihaa", sum := "52881d7d55b246a3db6fda402eef55892d1c454cbb5f9458e144b278f72e2fbe", func := "ramekin/ramekinlaw7.NandErase", spec := "nandErase", unfollowed := true, recurses := true, apart := false, narrowed := true }
def NandEraseUptoSaid : Prop := nandEraseUptoRow.holds Try.pinned (OpenSpec.upto nandEraseSpec)

/-- 'ramekinlaw7.NandPlays', WHERE WHAT IT READS IS OF BULK AT MOST 1048576: true; the input reads as it did. -/
def nandPlaysUptoRow : OpenClaim := { program := "ytpamdlnobekihaa", sum := "52881d7d55b246a3db6fda402eef55892d1c454cbb5f9458e144b278f72e2fbe", func := "ramekin/ramekinlaw7.NandPlays", spec := "nandPlays", unfollowed := true, recurses := true, apart := false, narrowed := true }
def NandPlaysUptoSaid : Prop := nandPlaysUptoRow.holds Try.pinned (OpenSpec.upto nandPlaysSpec)

end Rows
end Go.Proofs.Ytpamdlnobekihaa
