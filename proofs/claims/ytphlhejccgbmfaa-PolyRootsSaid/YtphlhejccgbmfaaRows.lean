/-
  No cell of these rows narrows 'for every input' (looked for: loops, veiled, ifaces, maps, wideKeys, modest, calm, conditions, laid).
  DERIVED. THE GIVEN ROWS OF THIS SEAT. 7 by the template 'for every input the law returns true; each argument reads behind the call as it read before'; 0 by the template 'total and deterministic' (their statements: YtphlhejccgbmfaaTotals.lean).
  GIVEN WITH THE SEED: the statements are not yours to turn. If you find one false, say at which input.
  Laid BY PROGRAM, IN A SANDBOX (cutbox-rows.mjs): the forced cells as the released guide's own fill.sh prints them over the translation e222e2be96bcdd19… (all of the seat's roots in one cut). By AI agents, Wed Nov 11 2026. No macro, syntax, notation, axiom, sorry.
-/
import Derived.Test.YtphlhejccgbmfaaChecked
import GoSem.Claim
import GoSem.ClaimJoined
import GoSem.ClaimMapViews
import Derived.JoinedTies
import Derived.KernelRfl
namespace Go.Proofs.Ytphlhejccgbmfaa
/- THE CELL 'sum', in the pinned program and in every row, IS THE sha256 OF THE DUMP (.gsa) THAT YtphlhejccgbmfaaProg.lean LOADS. Nothing in Lean hashes anything: it is a label: what it is worth is what the hold of that sum in a sandbox is worth. -/
noncomputable def Try.pinned : Pinned := { name := "ytphlhejccgbmfaa", sum := "e222e2be96bcdd1963562465dfee3a303239127041057a3f197d0ceb7a5ed0c1", checked := Try.checked }
namespace Rows
def none {H : Type} : Left H := { results := [], args := [] }

/-- 'ramekinlaw3.PolyMinimal': WHATEVER THE INPUT: true; the input reads as it did. -/
def polyMinimalSpec : ChangeSpec := { name := "polyMinimal", fn := fun _ => fun
  | [d] => { results := [.lit (.bool true)], args := [d] }
  | _ => none }
def polyMinimalRow : OpenClaim := { program := "ytphlhejccgbmfaa", sum := "e222e2be96bcdd1963562465dfee3a303239127041057a3f197d0ceb7a5ed0c1", func := "ramekin/ramekinlaw3.PolyMinimal", spec := "polyMinimal", unfollowed := true, recurses := true, apart := false }
def PolyMinimalSaid : Prop := polyMinimalRow.holds Try.pinned (OpenSpec.ofChange polyMinimalSpec)

/-- ITS FALSE NEIGHBOUR: 'it returns false'. Refute it at one input. -/
def polyMinimalWrong : ChangeSpec := { name := "polyMinimal", fn := fun _ => fun
  | [d] => { results := [.lit (.bool false)], args := [d] }
  | _ => none }
def PolyMinimalWrongFalsely : Prop := polyMinimalRow.holds Try.pinned (OpenSpec.ofChange polyMinimalWrong)

/-- 'ramekinlaw3.PolyRing': WHATEVER THE INPUT: true; the input reads as it did. -/
def polyRingSpec : ChangeSpec := { name := "polyRing", fn := fun _ => fun
  | [d1, d2, d3] => { results := [.lit (.bool true)], args := [d1, d2, d3] }
  | _ => none }
def polyRingRow : OpenClaim := { program := "ytphlhejccgbmfaa", sum := "e222e2be96bcdd1963562465dfee3a303239127041057a3f197d0ceb7a5ed0c1", func := "ramekin/ramekinlaw3.PolyRing", spec := "polyRing", unfollowed := true, recurses := true, apart := false }
def PolyRingSaid : Prop := polyRingRow.holds Try.pinned (OpenSpec.ofChange polyRingSpec)

/-- ITS FALSE NEIGHBOUR: 'it returns false'. Refute it at one input. -/
def polyRingWrong : ChangeSpec := { name := "polyRing", fn := fun _ => fun
  | [d1, d2, d3] => { results := [.lit (.bool false)], args := [d1, d2, d3] }
  | _ => none }
def PolyRingWrongFalsely : Prop := polyRingRow.holds Try.pinned (OpenSpec.ofChange polyRingWrong)

/-- 'ramekinlaw3.PolyEvals': WHATEVER THE INPUT: true; the input reads as it did. -/
def polyEvalsSpec : ChangeSpec := { name := "polyEvals", fn := fun _ => fun
  | [d1, d2, d3] => { results := [.lit (.bool true)], args := [d1, d2, d3] }
  | _ => none }
def polyEvalsRow : OpenClaim := { program := "ytphlhejccgbmfaa", sum := "e222e2be96bcdd1963562465dfee3a303239127041057a3f197d0ceb7a5ed0c1", func := "ramekin/ramekinlaw3.PolyEvals", spec := "polyEvals", unfollowed := true, recurses := true, apart := false }
def PolyEvalsSaid : Prop := polyEvalsRow.holds Try.pinned (OpenSpec.ofChange polyEvalsSpec)

/-- ITS FALSE NEIGHBOUR: 'it returns false'. Refute it at one input. -/
def polyEvalsWrong : ChangeSpec := { name := "polyEvals", fn := fun _ => fun
  | [d1, d2, d3] => { results := [.lit (.bool false)], args := [d1, d2, d3] }
  | _ => none }
def PolyEvalsWrongFalsely : Prop := polyEvalsRow.holds Try.pinned (OpenSpec.ofChange polyEvalsWrong)

/-- 'ramekinlaw3.PolyTrims': WHATEVER THE INPUT: true; the input reads as it did. -/
def polyTrimsSpec : ChangeSpec := { name := "polyTrims", fn := fun _ => fun
  | [d1, d2, d3, d4] => { results := [.lit (.bool true)], args := [d1, d2, d3, d4] }
  | _ => none }
def polyTrimsRow : OpenClaim := { program := "ytphlhejccgbmfaa", sum := "e222e2be96bcdd1963562465dfee3a303239127041057a3f197d0ceb7a5ed0c1", func := "ramekin/ramekinlaw3.PolyTrims", spec := "polyTrims", unfollowed := true, recurses := true, apart := false }
def PolyTrimsSaid : Prop := polyTrimsRow.holds Try.pinned (OpenSpec.ofChange polyTrimsSpec)

/-- ITS FALSE NEIGHBOUR: 'it returns false'. Refute it at one input. -/
def polyTrimsWrong : ChangeSpec := { name := "polyTrims", fn := fun _ => fun
  | [d1, d2, d3, d4] => { results := [.lit (.bool false)], args := [d1, d2, d3, d4] }
  | _ => none }
def PolyTrimsWrongFalsely : Prop := polyTrimsRow.holds Try.pinned (OpenSpec.ofChange polyTrimsWrong)

/-- 'ramekinlaw3.PolyRoots': WHATEVER THE INPUT: true; the input reads as it did. -/
def polyRootsSpec : ChangeSpec := { name := "polyRoots", fn := fun _ => fun
  | [d1, d2] => { results := [.lit (.bool true)], args := [d1, d2] }
  | _ => none }
def polyRootsRow : OpenClaim := { program := "ytphlhejccgbmfaa", sum := "e222e2be96bcdd1963562465dfee3a303239127041057a3f197d0ceb7a5ed0c1", func := "ramekin/ramekinlaw3.PolyRoots", spec := "polyRoots", unfollowed := true, recurses := true, apart := false }
def PolyRootsSaid : Prop := polyRootsRow.holds Try.pinned (OpenSpec.ofChange polyRootsSpec)

/-- ITS FALSE NEIGHBOUR: 'it returns false'. Refute it at one input. -/
def polyRootsWrong : ChangeSpec := { name := "polyRoots", fn := fun _ => fun
  | [d1, d2] => { results := [.lit (.bool false)], args := [d1, d2] }
  | _ => none }
def PolyRootsWrongFalsely : Prop := polyRootsRow.holds Try.pinned (OpenSpec.ofChange polyRootsWrong)

/-- 'ramekinlaw3.PolyTwo': WHATEVER THE INPUT: true; the input reads as it did. -/
def polyTwoSpec : ChangeSpec := { name := "polyTwo", fn := fun _ => fun
  | [d1, d2] => { results := [.lit (.bool true)], args := [d1, d2] }
  | _ => none }
def polyTwoRow : OpenClaim := { program := "ytphlhejccgbmfaa", sum := "e222e2be96bcdd1963562465dfee3a303239127041057a3f197d0ceb7a5ed0c1", func := "ramekin/ramekinlaw3.PolyTwo", spec := "polyTwo", unfollowed := true, recurses := true, apart := false }
def PolyTwoSaid : Prop := polyTwoRow.holds Try.pinned (OpenSpec.ofChange polyTwoSpec)

/-- ITS FALSE NEIGHBOUR: 'it returns false'. Refute it at one input. -/
def polyTwoWrong : ChangeSpec := { name := "polyTwo", fn := fun _ => fun
  | [d1, d2] => { results := [.lit (.bool false)], args := [d1, d2] }
  | _ => none }
def PolyTwoWrongFalsely : Prop := polyTwoRow.holds Try.pinned (OpenSpec.ofChange polyTwoWrong)

/-- 'ramekinlaw3.PolyDivides': WHATEVER THE INPUT: true; the input reads as it did. -/
def polyDividesSpec : ChangeSpec := { name := "polyDivides", fn := fun _ => fun
  | [d1, d2] => { results := [.lit (.bool true)], args := [d1, d2] }
  | _ => none }
def polyDividesRow : OpenClaim := { program := "ytphlhejccgbmfaa", sum := "e222e2be96bcdd1963562465dfee3a303239127041057a3f197d0ceb7a5ed0c1", func := "ramekin/ramekinlaw3.PolyDivides", spec := "polyDivides", unfollowed := true, recurses := true, apart := false }
def PolyDividesSaid : Prop := polyDividesRow.holds Try.pinned (OpenSpec.ofChange polyDividesSpec)

/-- ITS FALSE NEIGHBOUR: 'it returns false'. Refute it at one input. -/
def polyDividesWrong : ChangeSpec := { name := "polyDivides", fn := fun _ => fun
  | [d1, d2] => { results := [.lit (.bool false)], args := [d1, d2] }
  | _ => none }
def PolyDividesWrongFalsely : Prop := polyDividesRow.holds Try.pinned (OpenSpec.ofChange polyDividesWrong)

/- THE SECOND FORM. 'bulk': how many values and letters a reading holds, each counted each time it is reached (what is shared counts as often as it is met; a slice's spare places count too). A statement '..UptoSaid' is the law's where the arguments, and the package variables that the reading takes, are together of bulk at most 1048576: NARROWER than '..Said'. Prove '..Said' where nothing that the law and all that it calls make is longer than what came in: it says more and counts as full. Else prove '..UptoSaid'. A law counts once. -/
mutual
def uptoBulk {H : Type} : DataW H → Nat
  | .lit (.string bytes) => bytes.length + 1
  | .lit _ => 1
  | .nil => 1
  | .ptr d => uptoBulk d + 1
  | .slice elems spare => uptoBulkAll elems + uptoBulkAll spare + 1
  | .agg parts => uptoBulkAll parts + 1
  | .iface _ d => uptoBulk d + 1
  | .map entries => uptoBulkEntries entries + 1
  | .held _ => 1
def uptoBulkAll {H : Type} : List (DataW H) → Nat
  | [] => 0
  | d :: r => uptoBulk d + uptoBulkAll r
def uptoBulkEntries {H : Type} : List (Lit × DataW H) → Nat
  | [] => 0
  | x :: r => uptoBulkEntry x + uptoBulkEntries r
def uptoBulkEntry {H : Type} : Lit × DataW H → Nat
  | (.string bytes, d) => bytes.length + uptoBulk d + 1
  | (_, d) => uptoBulk d + 1
 end
def uptoSmall : (H : Type) → List (DataW H) → Bool := fun _ ds => decide (uptoBulkAll ds ≤ 1048576)
def OpenSpec.upto (s : _root_.Go.ChangeSpec) : _root_.Go.OpenSpec := { _root_.Go.OpenSpec.ofChange s with cond := some uptoSmall }

/-- 'ramekinlaw3.PolyMinimal', WHERE WHAT IT READS IS OF BULK AT MOST 1048576: true; the input reads as it did. -/
def polyMinimalUptoRow : OpenClaim := { program := "ytphlhejccgbmfaa", sum := "e222e2be96bcdd1963562465dfee3a303239127041057a3f197d0ceb7a5ed0c1", func := "ramekin/ramekinlaw3.PolyMinimal", spec := "polyMinimal", unfollowed := true, recurses := true, apart := false, narrowed := true }
def PolyMinimalUptoSaid : Prop := polyMinimalUptoRow.holds Try.pinned (OpenSpec.upto polyMinimalSpec)

/-- 'ramekinlaw3.PolyRing', WHERE WHAT IT READS IS OF BULK AT MOST 1048576: true; the input reads as it did. -/
def polyRingUptoRow : OpenClaim := { program := "ytphlhejccgbmfaa", sum := "e222e2be96bcdd1963562465dfee3a303239127041057a3f197d0ceb7a5ed0c1", func := "ramekin/ramekinlaw3.PolyRing", spec := "polyRing", unfollowed := true, recurses := true, apart := false, narrowed := true }
def PolyRingUptoSaid : Prop := polyRingUptoRow.holds Try.pinned (OpenSpec.upto polyRingSpec)

/-- 'ramekinlaw3.PolyEvals', WHERE WHAT IT READS IS OF BULK AT MOST 1048576: true; the input reads as it did. -/
def polyEvalsUptoRow : OpenClaim := { program := "ytphlhejccgbmfaa", sum := "e222e2be96bcdd1963562465dfee3a303239127041057a3f197d0ceb7a5ed0c1", func := "ramekin/ramekinlaw3.PolyEvals", spec := "polyEvals", unfollowed := true, recurses := true, apart := false, narrowed := true }
def PolyEvalsUptoSaid : Prop := polyEvalsUptoRow.holds Try.pinned (OpenSpec.upto polyEvalsSpec)

/-- 'ramekinlaw3.PolyTrims', WHERE WHAT IT READS IS OF BULK AT MOST 1048576: true; the input reads as it did. -/
def polyTrimsUptoRow : OpenClaim := { program := "ytphlhejccgbmfaa", sum := "e222e2be96bcdd1963562465dfee3a303239127041057a3f197d0ceb7a5ed0c1", func := "ramekin/ramekinlaw3.PolyTrims", spec := "polyTrims", unfollowed := true, recurses := true, apart := false, narrowed := true }
def PolyTrimsUptoSaid : Prop := polyTrimsUptoRow.holds Try.pinned (OpenSpec.upto polyTrimsSpec)

/-- 'ramekinlaw3.PolyRoots', WHERE WHAT IT READS IS OF BULK AT MOST 1048576: true; the input reads as it did. -/
def polyRootsUptoRow : OpenClaim := { program := "ytphlhejccgbmfaa", sum := "e222e2be96bcdd1963562465dfee3a303239127041057a3f197d0ceb7a5ed0c1", func := "ramekin/ramekinlaw3.PolyRoots", spec := "polyRoots", unfollowed := true, recurses := true, apart := false, narrowed := true }
def PolyRootsUptoSaid : Prop := polyRootsUptoRow.holds Try.pinned (OpenSpec.upto polyRootsSpec)

/-- 'ramekinlaw3.PolyTwo', WHERE WHAT IT READS IS OF BULK AT MOST 1048576: true; the input reads as it did. -/
def polyTwoUptoRow : OpenClaim := { program := "ytphlhejccgbmfaa", sum := "e222e2be96bcdd1963562465dfee3a303239127041057a3f197d0ceb7a5ed0c1", func := "ramekin/ramekinlaw3.PolyTwo", spec := "polyTwo", unfollowed := true, recurses := true, apart := false, narrowed := true }
def PolyTwoUptoSaid : Prop := polyTwoUptoRow.holds Try.pinned (OpenSpec.upto polyTwoSpec)

/-- 'ramekinlaw3.PolyDivides', WHERE WHAT IT READS IS OF BULK AT MOST 1048576: true; the input reads as it did. -/
def polyDividesUptoRow : OpenClaim := { program := "ytphlhejccgbmfaa", sum := "e222e2be96bcdd1963562465dfee3a303239127041057a3f197d0ceb7a5ed0c1", func := "ramekin/ramekinlaw3.PolyDivides", spec := "polyDivides", unfollowed := true, recurses := true, apart := false, narrowed := true }
def PolyDividesUptoSaid : Prop := polyDividesUptoRow.holds Try.pinned (OpenSpec.upto polyDividesSpec)

end Rows
end Go.Proofs.Ytphlhejccgbmfaa
