/-
  No cell of these rows narrows 'for every input' (looked for: loops, veiled, ifaces, maps, wideKeys, modest, calm, conditions, laid).
  DERIVED. THE GIVEN ROWS OF THIS SEAT. 10 by the template 'for every input the law returns true; each argument reads behind the call as it read before'; 0 by the template 'total and deterministic' (their statements: YtkppgdbpadaegaaTotals.lean).
  GIVEN WITH THE SEED: the statements are not yours to turn. If you find one false, say at which input.
  Laid BY PROGRAM, IN A SANDBOX (cutbox-rows.mjs): the forced cells as the released guide's own fill.sh prints them over the translation b805c28451078546… (all of the seat's roots in one cut). By AI agents, Wed Nov 11 2026. No macro, syntax, notation, axiom, sorry.
-/
import Derived.Test.YtkppgdbpadaegaaChecked
import GoSem.Claim
import GoSem.ClaimJoined
import GoSem.ClaimMapViews
import Derived.JoinedTies
import Derived.KernelRfl
namespace Go.Proofs.Ytkppgdbpadaegaa
/- THE CELL 'sum', in the pinned program and in every row, IS THE sha256 OF THE DUMP (.gsa) THAT YtkppgdbpadaegaaProg.lean LOADS. Nothing in Lean hashes anything: it is a label: what it is worth is what the hold of that sum in a sandbox is worth. -/
noncomputable def Try.pinned : Pinned := { name := "ytkppgdbpadaegaa", sum := "b805c2845107854657f266921e8670b21cf23defe9f8bbfb4e34532c3cc615d3", checked := Try.checked }
namespace Rows
def none {H : Type} : Left H := { results := [], args := [] }

/-- 'ramekinlaw4.BchSums': WHATEVER THE INPUT: true; the input reads as it did. -/
def bchSumsSpec : ChangeSpec := { name := "bchSums", fn := fun _ => fun
  | [d1, d2] => { results := [.lit (.bool true)], args := [d1, d2] }
  | _ => none }
def bchSumsRow : OpenClaim := { program := "ytkppgdbpadaegaa", sum := "b805c2845107854657f266921e8670b21cf23defe9f8bbfb4e34532c3cc615d3", func := "ramekin/ramekinlaw4.BchSums", spec := "bchSums", unfollowed := true, recurses := true, apart := false }
def BchSumsSaid : Prop := bchSumsRow.holds Try.pinned (OpenSpec.ofChange bchSumsSpec)

/-- ITS FALSE NEIGHBOUR: 'it returns false'. Refute it at one input. -/
def bchSumsWrong : ChangeSpec := { name := "bchSums", fn := fun _ => fun
  | [d1, d2] => { results := [.lit (.bool false)], args := [d1, d2] }
  | _ => none }
def BchSumsWrongFalsely : Prop := bchSumsRow.holds Try.pinned (OpenSpec.ofChange bchSumsWrong)

/-- 'ramekinlaw4.BchGenerator': WHATEVER THE INPUT: true; the input reads as it did. -/
def bchGeneratorSpec : ChangeSpec := { name := "bchGenerator", fn := fun _ => fun
  | [d] => { results := [.lit (.bool true)], args := [d] }
  | _ => none }
def bchGeneratorRow : OpenClaim := { program := "ytkppgdbpadaegaa", sum := "b805c2845107854657f266921e8670b21cf23defe9f8bbfb4e34532c3cc615d3", func := "ramekin/ramekinlaw4.BchGenerator", spec := "bchGenerator", unfollowed := true, recurses := true, apart := false }
def BchGeneratorSaid : Prop := bchGeneratorRow.holds Try.pinned (OpenSpec.ofChange bchGeneratorSpec)

/-- ITS FALSE NEIGHBOUR: 'it returns false'. Refute it at one input. -/
def bchGeneratorWrong : ChangeSpec := { name := "bchGenerator", fn := fun _ => fun
  | [d] => { results := [.lit (.bool false)], args := [d] }
  | _ => none }
def BchGeneratorWrongFalsely : Prop := bchGeneratorRow.holds Try.pinned (OpenSpec.ofChange bchGeneratorWrong)

/-- 'ramekinlaw4.BchEncodes': WHATEVER THE INPUT: true; the input reads as it did. -/
def bchEncodesSpec : ChangeSpec := { name := "bchEncodes", fn := fun _ => fun
  | [d1, d2] => { results := [.lit (.bool true)], args := [d1, d2] }
  | _ => none }
def bchEncodesRow : OpenClaim := { program := "ytkppgdbpadaegaa", sum := "b805c2845107854657f266921e8670b21cf23defe9f8bbfb4e34532c3cc615d3", func := "ramekin/ramekinlaw4.BchEncodes", spec := "bchEncodes", unfollowed := true, recurses := true, apart := false }
def BchEncodesSaid : Prop := bchEncodesRow.holds Try.pinned (OpenSpec.ofChange bchEncodesSpec)

/-- ITS FALSE NEIGHBOUR: 'it returns false'. Refute it at one input. -/
def bchEncodesWrong : ChangeSpec := { name := "bchEncodes", fn := fun _ => fun
  | [d1, d2] => { results := [.lit (.bool false)], args := [d1, d2] }
  | _ => none }
def BchEncodesWrongFalsely : Prop := bchEncodesRow.holds Try.pinned (OpenSpec.ofChange bchEncodesWrong)

/-- 'ramekinlaw4.BchSyndromes': WHATEVER THE INPUT: true; the input reads as it did. -/
def bchSyndromesSpec : ChangeSpec := { name := "bchSyndromes", fn := fun _ => fun
  | [d1, d2, d3] => { results := [.lit (.bool true)], args := [d1, d2, d3] }
  | _ => none }
def bchSyndromesRow : OpenClaim := { program := "ytkppgdbpadaegaa", sum := "b805c2845107854657f266921e8670b21cf23defe9f8bbfb4e34532c3cc615d3", func := "ramekin/ramekinlaw4.BchSyndromes", spec := "bchSyndromes", unfollowed := true, recurses := true, apart := false }
def BchSyndromesSaid : Prop := bchSyndromesRow.holds Try.pinned (OpenSpec.ofChange bchSyndromesSpec)

/-- ITS FALSE NEIGHBOUR: 'it returns false'. Refute it at one input. -/
def bchSyndromesWrong : ChangeSpec := { name := "bchSyndromes", fn := fun _ => fun
  | [d1, d2, d3] => { results := [.lit (.bool false)], args := [d1, d2, d3] }
  | _ => none }
def BchSyndromesWrongFalsely : Prop := bchSyndromesRow.holds Try.pinned (OpenSpec.ofChange bchSyndromesWrong)

/-- 'ramekinlaw4.BchSyndromesAdd': WHATEVER THE INPUT: true; the input reads as it did. -/
def bchSyndromesAddSpec : ChangeSpec := { name := "bchSyndromesAdd", fn := fun _ => fun
  | [d1, d2] => { results := [.lit (.bool true)], args := [d1, d2] }
  | _ => none }
def bchSyndromesAddRow : OpenClaim := { program := "ytkppgdbpadaegaa", sum := "b805c2845107854657f266921e8670b21cf23defe9f8bbfb4e34532c3cc615d3", func := "ramekin/ramekinlaw4.BchSyndromesAdd", spec := "bchSyndromesAdd", unfollowed := true, recurses := true, apart := false }
def BchSyndromesAddSaid : Prop := bchSyndromesAddRow.holds Try.pinned (OpenSpec.ofChange bchSyndromesAddSpec)

/-- ITS FALSE NEIGHBOUR: 'it returns false'. Refute it at one input. -/
def bchSyndromesAddWrong : ChangeSpec := { name := "bchSyndromesAdd", fn := fun _ => fun
  | [d1, d2] => { results := [.lit (.bool false)], args := [d1, d2] }
  | _ => none }
def BchSyndromesAddWrongFalsely : Prop := bchSyndromesAddRow.holds Try.pinned (OpenSpec.ofChange bchSyndromesAddWrong)

/-- 'ramekinlaw4.BchMends': WHATEVER THE INPUT: true; the input reads as it did. -/
def bchMendsSpec : ChangeSpec := { name := "bchMends", fn := fun _ => fun
  | [d1, d2] => { results := [.lit (.bool true)], args := [d1, d2] }
  | _ => none }
def bchMendsRow : OpenClaim := { program := "ytkppgdbpadaegaa", sum := "b805c2845107854657f266921e8670b21cf23defe9f8bbfb4e34532c3cc615d3", func := "ramekin/ramekinlaw4.BchMends", spec := "bchMends", unfollowed := true, recurses := true, apart := false }
def BchMendsSaid : Prop := bchMendsRow.holds Try.pinned (OpenSpec.ofChange bchMendsSpec)

/-- ITS FALSE NEIGHBOUR: 'it returns false'. Refute it at one input. -/
def bchMendsWrong : ChangeSpec := { name := "bchMends", fn := fun _ => fun
  | [d1, d2] => { results := [.lit (.bool false)], args := [d1, d2] }
  | _ => none }
def BchMendsWrongFalsely : Prop := bchMendsRow.holds Try.pinned (OpenSpec.ofChange bchMendsWrong)

/-- 'ramekinlaw4.BchDecodes': WHATEVER THE INPUT: true; the input reads as it did. -/
def bchDecodesSpec : ChangeSpec := { name := "bchDecodes", fn := fun _ => fun
  | [d1, d2, d3] => { results := [.lit (.bool true)], args := [d1, d2, d3] }
  | _ => none }
def bchDecodesRow : OpenClaim := { program := "ytkppgdbpadaegaa", sum := "b805c2845107854657f266921e8670b21cf23defe9f8bbfb4e34532c3cc615d3", func := "ramekin/ramekinlaw4.BchDecodes", spec := "bchDecodes", unfollowed := true, recurses := true, apart := false }
def BchDecodesSaid : Prop := bchDecodesRow.holds Try.pinned (OpenSpec.ofChange bchDecodesSpec)

/-- ITS FALSE NEIGHBOUR: 'it returns false'. Refute it at one input. -/
def bchDecodesWrong : ChangeSpec := { name := "bchDecodes", fn := fun _ => fun
  | [d1, d2, d3] => { results := [.lit (.bool false)], args := [d1, d2, d3] }
  | _ => none }
def BchDecodesWrongFalsely : Prop := bchDecodesRow.holds Try.pinned (OpenSpec.ofChange bchDecodesWrong)

/-- 'ramekinlaw4.BchOne': WHATEVER THE INPUT: true; the input reads as it did. -/
def bchOneSpec : ChangeSpec := { name := "bchOne", fn := fun _ => fun
  | [d1, d2] => { results := [.lit (.bool true)], args := [d1, d2] }
  | _ => none }
def bchOneRow : OpenClaim := { program := "ytkppgdbpadaegaa", sum := "b805c2845107854657f266921e8670b21cf23defe9f8bbfb4e34532c3cc615d3", func := "ramekin/ramekinlaw4.BchOne", spec := "bchOne", unfollowed := true, recurses := true, apart := false }
def BchOneSaid : Prop := bchOneRow.holds Try.pinned (OpenSpec.ofChange bchOneSpec)

/-- ITS FALSE NEIGHBOUR: 'it returns false'. Refute it at one input. -/
def bchOneWrong : ChangeSpec := { name := "bchOne", fn := fun _ => fun
  | [d1, d2] => { results := [.lit (.bool false)], args := [d1, d2] }
  | _ => none }
def BchOneWrongFalsely : Prop := bchOneRow.holds Try.pinned (OpenSpec.ofChange bchOneWrong)

/-- 'ramekinlaw4.BchNear': WHATEVER THE INPUT: true; the input reads as it did. -/
def bchNearSpec : ChangeSpec := { name := "bchNear", fn := fun _ => fun
  | [d1, d2] => { results := [.lit (.bool true)], args := [d1, d2] }
  | _ => none }
def bchNearRow : OpenClaim := { program := "ytkppgdbpadaegaa", sum := "b805c2845107854657f266921e8670b21cf23defe9f8bbfb4e34532c3cc615d3", func := "ramekin/ramekinlaw4.BchNear", spec := "bchNear", unfollowed := true, recurses := true, apart := false }
def BchNearSaid : Prop := bchNearRow.holds Try.pinned (OpenSpec.ofChange bchNearSpec)

/-- ITS FALSE NEIGHBOUR: 'it returns false'. Refute it at one input. -/
def bchNearWrong : ChangeSpec := { name := "bchNear", fn := fun _ => fun
  | [d1, d2] => { results := [.lit (.bool false)], args := [d1, d2] }
  | _ => none }
def BchNearWrongFalsely : Prop := bchNearRow.holds Try.pinned (OpenSpec.ofChange bchNearWrong)

/-- 'ramekinlaw4.BchSizes': WHATEVER THE INPUT: true; the input reads as it did. -/
def bchSizesSpec : ChangeSpec := { name := "bchSizes", fn := fun _ => fun
  | [d1, d2] => { results := [.lit (.bool true)], args := [d1, d2] }
  | _ => none }
def bchSizesRow : OpenClaim := { program := "ytkppgdbpadaegaa", sum := "b805c2845107854657f266921e8670b21cf23defe9f8bbfb4e34532c3cc615d3", func := "ramekin/ramekinlaw4.BchSizes", spec := "bchSizes", unfollowed := true, recurses := true, apart := false }
def BchSizesSaid : Prop := bchSizesRow.holds Try.pinned (OpenSpec.ofChange bchSizesSpec)

/-- ITS FALSE NEIGHBOUR: 'it returns false'. Refute it at one input. -/
def bchSizesWrong : ChangeSpec := { name := "bchSizes", fn := fun _ => fun
  | [d1, d2] => { results := [.lit (.bool false)], args := [d1, d2] }
  | _ => none }
def BchSizesWrongFalsely : Prop := bchSizesRow.holds Try.pinned (OpenSpec.ofChange bchSizesWrong)

/- THE SECOND FORM. 'bulk': how many values and letters a reading holds, each counted each time it is reached (what is shared counts as often as it is met; a slice's spare places count too). A statement '..UptoSaid' is the law's where the arguments, and the package variables that the reading takes, are together of bulk at most 1048576: NARROWER than '..Said'. Prove '..Said' where nothing that the law and all that it calls make is longer than what came in: it says more and counts as full. Else prove '..UptoSaid'. A law counts once. -/
mutual
def uptoBulk {H : Type} : DataW H → Nat
  | .lit (.string bytes) => bytes.length + 1
  | .lit _ => 1
  | .nil => 1
  | .ptr d => uptoBulk d + 1
  | .slice elems spare => uptoBulkAll elems + uptoBulkAll spare + 1
  | .agg parts => uptoBulkAll parts + 1
  | .iface _ d => uptoBulk d + 1
  | .map entries => uptoBulkEntries entries + 1
  | .held _ => 1
def uptoBulkAll {H : Type} : List (DataW H) → Nat
  | [] => 0
  | d :: r => uptoBulk d + uptoBulkAll r
def uptoBulkEntries {H : Type} : List (Lit × DataW H) → Nat
  | [] => 0
  | x :: r => uptoBulkEntry x + uptoBulkEntries r
def uptoBulkEntry {H : Type} : Lit × DataW H → Nat
  | (.string bytes, d) => bytes.length + uptoBulk d + 1
  | (_, d) => uptoBulk d + 1
 end
def uptoSmall : (H : Type) → List (DataW H) → Bool := fun _ ds => decide (uptoBulkAll ds ≤ 1048576)
def OpenSpec.upto (s : _root_.Go.ChangeSpec) : _root_.Go.OpenSpec := { _root_.Go.OpenSpec.ofChange s with cond := some uptoSmall }

/-- 'ramekinlaw4.BchSums', WHERE WHAT IT READS IS OF BULK AT MOST 1048576: true; the input reads as it did. -/
def bchSumsUptoRow : OpenClaim := { program := "ytkppgdbpadaegaa", sum := "b805c2845107854657f266921e8670b21cf23defe9f8bbfb4e34532c3cc615d3", func := "ramekin/ramekinlaw4.BchSums", spec := "bchSums", unfollowed := true, recurses := true, apart := false, narrowed := true }
def BchSumsUptoSaid : Prop := bchSumsUptoRow.holds Try.pinned (OpenSpec.upto bchSumsSpec)

/-- 'ramekinlaw4.BchGenerator', WHERE WHAT IT READS IS OF BULK AT MOST 1048576: true; the input reads as it did. -/
def bchGeneratorUptoRow : OpenClaim := { program := "ytkppgdbpadaegaa", sum := "b805c2845107854657f266921e8670b21cf23defe9f8bbfb4e34532c3cc615d3", func := "ramekin/ramekinlaw4.BchGenerator", spec := "bchGenerator", unfollowed := true, recurses := true, apart := false, narrowed := true }
def BchGeneratorUptoSaid : Prop := bchGeneratorUptoRow.holds Try.pinned (OpenSpec.upto bchGeneratorSpec)

/-- 'ramekinlaw4.BchEncodes', WHERE WHAT IT READS IS OF BULK AT MOST 1048576: true; the input reads as it did. -/
def bchEncodesUptoRow : OpenClaim := { program := "ytkppgdbpadaegaa", sum := "b805c2845107854657f266921e8670b21cf23defe9f8bbfb4e34532c3cc615d3", func := "ramekin/ramekinlaw4.BchEncodes", spec := "bchEncodes", unfollowed := true, recurses := true, apart := false, narrowed := true }
def BchEncodesUptoSaid : Prop := bchEncodesUptoRow.holds Try.pinned (OpenSpec.upto bchEncodesSpec)

/-- 'ramekinlaw4.BchSyndromes', WHERE WHAT IT READS IS OF BULK AT MOST 1048576: true; the input reads as it did. -/
def bchSyndromesUptoRow : OpenClaim := { program := "ytkppgdbpadaegaa", sum := "b805c2845107854657f266921e8670b21cf23defe9f8bbfb4e34532c3cc615d3", func := "ramekin/ramekinlaw4.BchSyndromes", spec := "bchSyndromes", unfollowed := true, recurses := true, apart := false, narrowed := true }
def BchSyndromesUptoSaid : Prop := bchSyndromesUptoRow.holds Try.pinned (OpenSpec.upto bchSyndromesSpec)

/-- 'ramekinlaw4.BchSyndromesAdd', WHERE WHAT IT READS IS OF BULK AT MOST 1048576: true; the input reads as it did. -/
def bchSyndromesAddUptoRow : OpenClaim := { program := "ytkppgdbpadaegaa", sum := "b805c2845107854657f266921e8670b21cf23defe9f8bbfb4e34532c3cc615d3", func := "ramekin/ramekinlaw4.BchSyndromesAdd", spec := "bchSyndromesAdd", unfollowed := true, recurses := true, apart := false, narrowed := true }
def BchSyndromesAddUptoSaid : Prop := bchSyndromesAddUptoRow.holds Try.pinned (OpenSpec.upto bchSyndromesAddSpec)

/-- 'ramekinlaw4.BchMends', WHERE WHAT IT READS IS OF BULK AT MOST 1048576: true; the input reads as it did. -/
def bchMendsUptoRow : OpenClaim := { program := "ytkppgdbpadaegaa", sum := "b805c2845107854657f266921e8670b21cf23defe9f8bbfb4e34532c3cc615d3", func := "ramekin/ramekinlaw4.BchMends", spec := "bchMends", unfollowed := true, recurses := true, apart := false, narrowed := true }
def BchMendsUptoSaid : Prop := bchMendsUptoRow.holds Try.pinned (OpenSpec.upto bchMendsSpec)

/-- 'ramekinlaw4.BchDecodes', WHERE WHAT IT READS IS OF BULK AT MOST 1048576: true; the input reads as it did. -/
def bchDecodesUptoRow : OpenClaim := { program := "ytkppgdbpadaegaa", sum := "b805c2845107854657f266921e8670b21cf23defe9f8bbfb4e34532c3cc615d3", func := "ramekin/ramekinlaw4.BchDecodes", spec := "bchDecodes", unfollowed := true, recurses := true, apart := false, narrowed := true }
def BchDecodesUptoSaid : Prop := bchDecodesUptoRow.holds Try.pinned (OpenSpec.upto bchDecodesSpec)

/-- 'ramekinlaw4.BchOne', WHERE WHAT IT READS IS OF BULK AT MOST 1048576: true; the input reads as it did. -/
def bchOneUptoRow : OpenClaim := { program := "ytkppgdbpadaegaa", sum := "b805c2845107854657f266921e8670b21cf23defe9f8bbfb4e34532c3cc615d3", func := "ramekin/ramekinlaw4.BchOne", spec := "bchOne", unfollowed := true, recurses := true, apart := false, narrowed := true }
def BchOneUptoSaid : Prop := bchOneUptoRow.holds Try.pinned (OpenSpec.upto bchOneSpec)

/-- 'ramekinlaw4.BchNear', WHERE WHAT IT READS IS OF BULK AT MOST 1048576: true; the input reads as it did. -/
def bchNearUptoRow : OpenClaim := { program := "ytkppgdbpadaegaa", sum := "b805c2845107854657f266921e8670b21cf23defe9f8bbfb4e34532c3cc615d3", func := "ramekin/ramekinlaw4.BchNear", spec := "bchNear", unfollowed := true, recurses := true, apart := false, narrowed := true }
def BchNearUptoSaid : Prop := bchNearUptoRow.holds Try.pinned (OpenSpec.upto bchNearSpec)

/-- 'ramekinlaw4.BchSizes', WHERE WHAT IT READS IS OF BULK AT MOST 1048576: true; the input reads as it did. -/
def bchSizesUptoRow : OpenClaim := { program := "ytkppgdbpadaegaa", sum := "b805c2845107854657f266921e8670b21cf23defe9f8bbfb4e34532c3cc615d3", func := "ramekin/ramekinlaw4.BchSizes", spec := "bchSizes", unfollowed := true, recurses := true, apart := false, narrowed := true }
def BchSizesUptoSaid : Prop := bchSizesUptoRow.holds Try.pinned (OpenSpec.upto bchSizesSpec)

end Rows
end Go.Proofs.Ytkppgdbpadaegaa
