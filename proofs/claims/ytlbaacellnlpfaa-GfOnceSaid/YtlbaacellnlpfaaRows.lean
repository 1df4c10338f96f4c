/-
  No cell of these rows narrows 'for every input' (looked for: loops, veiled, ifaces, maps, wideKeys, modest, calm, conditions, laid).
  DERIVED. THE GIVEN ROWS OF THIS SEAT. 9 by the template 'for every input the law returns true; each argument reads behind the call as it read before'; 0 by the template 'total and deterministic' (their statements: YtlbaacellnlpfaaTotals.lean).
  GIVEN WITH THE SEED: the statements are not yours to turn. If you find one false, say at which input.
  Laid BY PROGRAM, IN A SANDBOX (cutbox-rows.mjs): the forced cells as the released guide's own fill.sh prints them over the translation dab6871a7c527462… (all of the seat's roots in one cut). By AI agents, Wed Nov 11 2026. No macro, syntax, notation, axiom, sorry.
-/
import Derived.Test.YtlbaacellnlpfaaChecked
import GoSem.Claim
import GoSem.ClaimJoined
import GoSem.ClaimMapViews
import Derived.JoinedTies
import Derived.KernelRfl
namespace Go.Proofs.Ytlbaacellnlpfaa
/- THE CELL 'sum', in the pinned program and in every row, IS THE sha256 OF THE DUMP (.gsa) THAT YtlbaacellnlpfaaProg.lean LOADS. Nothing in Lean hashes anything: it is a label: what it is worth is what the hold of that sum in a sandbox is worth. -/
noncomputable def Try.pinned : Pinned := { name := "ytlbaacellnlpfaa", sum := "dab6871a7c5274628346da95d1d0e41e78a7be53186ede049043f879505f21db", checked := Try.checked }
namespace Rows
def none {H : Type} : Left H := { results := [], args := [] }

/-- 'ramekinlaw2.GfMul': WHATEVER THE INPUT: true; the input reads as it did. -/
def gfMulSpec : ChangeSpec := { name := "gfMul", fn := fun _ => fun
  | [d1, d2] => { results := [.lit (.bool true)], args := [d1, d2] }
  | _ => none }
def gfMulRow : OpenClaim := { program := "ytlbaacellnlpfaa", sum := "dab6871a7c5274628346da95d1d0e41e78a7be53186ede049043f879505f21db", func := "ramekin/ramekinlaw2.GfMul", spec := "gfMul", unfollowed := true, recurses := true, apart := false }
def GfMulSaid : Prop := gfMulRow.holds Try.pinned (OpenSpec.ofChange gfMulSpec)

/-- ITS FALSE NEIGHBOUR: 'it returns false'. Refute it at one input. -/
def gfMulWrong : ChangeSpec := { name := "gfMul", fn := fun _ => fun
  | [d1, d2] => { results := [.lit (.bool false)], args := [d1, d2] }
  | _ => none }
def GfMulWrongFalsely : Prop := gfMulRow.holds Try.pinned (OpenSpec.ofChange gfMulWrong)

/-- 'ramekinlaw2.GfSquares': WHATEVER THE INPUT: true; the input reads as it did. -/
def gfSquaresSpec : ChangeSpec := { name := "gfSquares", fn := fun _ => fun
  | [d1, d2] => { results := [.lit (.bool true)], args := [d1, d2] }
  | _ => none }
def gfSquaresRow : OpenClaim := { program := "ytlbaacellnlpfaa", sum := "dab6871a7c5274628346da95d1d0e41e78a7be53186ede049043f879505f21db", func := "ramekin/ramekinlaw2.GfSquares", spec := "gfSquares", unfollowed := true, recurses := true, apart := false }
def GfSquaresSaid : Prop := gfSquaresRow.holds Try.pinned (OpenSpec.ofChange gfSquaresSpec)

/-- ITS FALSE NEIGHBOUR: 'it returns false'. Refute it at one input. -/
def gfSquaresWrong : ChangeSpec := { name := "gfSquares", fn := fun _ => fun
  | [d1, d2] => { results := [.lit (.bool false)], args := [d1, d2] }
  | _ => none }
def GfSquaresWrongFalsely : Prop := gfSquaresRow.holds Try.pinned (OpenSpec.ofChange gfSquaresWrong)

/-- 'ramekinlaw2.GfKnown': WHATEVER THE INPUT: true; the input reads as it did. -/
def gfKnownSpec : ChangeSpec := { name := "gfKnown", fn := fun _ => fun
  | [d] => { results := [.lit (.bool true)], args := [d] }
  | _ => none }
def gfKnownRow : OpenClaim := { program := "ytlbaacellnlpfaa", sum := "dab6871a7c5274628346da95d1d0e41e78a7be53186ede049043f879505f21db", func := "ramekin/ramekinlaw2.GfKnown", spec := "gfKnown", unfollowed := true, recurses := true, apart := false }
def GfKnownSaid : Prop := gfKnownRow.holds Try.pinned (OpenSpec.ofChange gfKnownSpec)

/-- ITS FALSE NEIGHBOUR: 'it returns false'. Refute it at one input. -/
def gfKnownWrong : ChangeSpec := { name := "gfKnown", fn := fun _ => fun
  | [d] => { results := [.lit (.bool false)], args := [d] }
  | _ => none }
def GfKnownWrongFalsely : Prop := gfKnownRow.holds Try.pinned (OpenSpec.ofChange gfKnownWrong)

/-- 'ramekinlaw2.GfDoubles': WHATEVER THE INPUT: true; the input reads as it did. -/
def gfDoublesSpec : ChangeSpec := { name := "gfDoubles", fn := fun _ => fun
  | [d1, d2] => { results := [.lit (.bool true)], args := [d1, d2] }
  | _ => none }
def gfDoublesRow : OpenClaim := { program := "ytlbaacellnlpfaa", sum := "dab6871a7c5274628346da95d1d0e41e78a7be53186ede049043f879505f21db", func := "ramekin/ramekinlaw2.GfDoubles", spec := "gfDoubles", unfollowed := true, recurses := true, apart := false }
def GfDoublesSaid : Prop := gfDoublesRow.holds Try.pinned (OpenSpec.ofChange gfDoublesSpec)

/-- ITS FALSE NEIGHBOUR: 'it returns false'. Refute it at one input. -/
def gfDoublesWrong : ChangeSpec := { name := "gfDoubles", fn := fun _ => fun
  | [d1, d2] => { results := [.lit (.bool false)], args := [d1, d2] }
  | _ => none }
def GfDoublesWrongFalsely : Prop := gfDoublesRow.holds Try.pinned (OpenSpec.ofChange gfDoublesWrong)

/-- 'ramekinlaw2.GfQuotients': WHATEVER THE INPUT: true; the input reads as it did. -/
def gfQuotientsSpec : ChangeSpec := { name := "gfQuotients", fn := fun _ => fun
  | [d1, d2] => { results := [.lit (.bool true)], args := [d1, d2] }
  | _ => none }
def gfQuotientsRow : OpenClaim := { program := "ytlbaacellnlpfaa", sum := "dab6871a7c5274628346da95d1d0e41e78a7be53186ede049043f879505f21db", func := "ramekin/ramekinlaw2.GfQuotients", spec := "gfQuotients", unfollowed := true, recurses := true, apart := false }
def GfQuotientsSaid : Prop := gfQuotientsRow.holds Try.pinned (OpenSpec.ofChange gfQuotientsSpec)

/-- ITS FALSE NEIGHBOUR: 'it returns false'. Refute it at one input. -/
def gfQuotientsWrong : ChangeSpec := { name := "gfQuotients", fn := fun _ => fun
  | [d1, d2] => { results := [.lit (.bool false)], args := [d1, d2] }
  | _ => none }
def GfQuotientsWrongFalsely : Prop := gfQuotientsRow.holds Try.pinned (OpenSpec.ofChange gfQuotientsWrong)

/-- 'ramekinlaw2.GfRound': WHATEVER THE INPUT: true; the input reads as it did. -/
def gfRoundSpec : ChangeSpec := { name := "gfRound", fn := fun _ => fun
  | [d1, d2, d3] => { results := [.lit (.bool true)], args := [d1, d2, d3] }
  | _ => none }
def gfRoundRow : OpenClaim := { program := "ytlbaacellnlpfaa", sum := "dab6871a7c5274628346da95d1d0e41e78a7be53186ede049043f879505f21db", func := "ramekin/ramekinlaw2.GfRound", spec := "gfRound", unfollowed := true, recurses := true, apart := false }
def GfRoundSaid : Prop := gfRoundRow.holds Try.pinned (OpenSpec.ofChange gfRoundSpec)

/-- ITS FALSE NEIGHBOUR: 'it returns false'. Refute it at one input. -/
def gfRoundWrong : ChangeSpec := { name := "gfRound", fn := fun _ => fun
  | [d1, d2, d3] => { results := [.lit (.bool false)], args := [d1, d2, d3] }
  | _ => none }
def GfRoundWrongFalsely : Prop := gfRoundRow.holds Try.pinned (OpenSpec.ofChange gfRoundWrong)

/-- 'ramekinlaw2.GfOnce': WHATEVER THE INPUT: true; the input reads as it did. -/
def gfOnceSpec : ChangeSpec := { name := "gfOnce", fn := fun _ => fun
  | [d] => { results := [.lit (.bool true)], args := [d] }
  | _ => none }
def gfOnceRow : OpenClaim := { program := "ytlbaacellnlpfaa", sum := "dab6871a7c5274628346da95d1d0e41e78a7be53186ede049043f879505f21db", func := "ramekin/ramekinlaw2.GfOnce", spec := "gfOnce", unfollowed := true, recurses := true, apart := false }
def GfOnceSaid : Prop := gfOnceRow.holds Try.pinned (OpenSpec.ofChange gfOnceSpec)

/-- ITS FALSE NEIGHBOUR: 'it returns false'. Refute it at one input. -/
def gfOnceWrong : ChangeSpec := { name := "gfOnce", fn := fun _ => fun
  | [d] => { results := [.lit (.bool false)], args := [d] }
  | _ => none }
def GfOnceWrongFalsely : Prop := gfOnceRow.holds Try.pinned (OpenSpec.ofChange gfOnceWrong)

/-- 'ramekinlaw2.GfPowers': WHATEVER THE INPUT: true; the input reads as it did. -/
def gfPowersSpec : ChangeSpec := { name := "gfPowers", fn := fun _ => fun
  | [d1, d2] => { results := [.lit (.bool true)], args := [d1, d2] }
  | _ => none }
def gfPowersRow : OpenClaim := { program := "ytlbaacellnlpfaa", sum := "dab6871a7c5274628346da95d1d0e41e78a7be53186ede049043f879505f21db", func := "ramekin/ramekinlaw2.GfPowers", spec := "gfPowers", unfollowed := true, recurses := true, apart := false }
def GfPowersSaid : Prop := gfPowersRow.holds Try.pinned (OpenSpec.ofChange gfPowersSpec)

/-- ITS FALSE NEIGHBOUR: 'it returns false'. Refute it at one input. -/
def gfPowersWrong : ChangeSpec := { name := "gfPowers", fn := fun _ => fun
  | [d1, d2] => { results := [.lit (.bool false)], args := [d1, d2] }
  | _ => none }
def GfPowersWrongFalsely : Prop := gfPowersRow.holds Try.pinned (OpenSpec.ofChange gfPowersWrong)

/-- 'ramekinlaw2.GfField': WHATEVER THE INPUT: true; the input reads as it did. -/
def gfFieldSpec : ChangeSpec := { name := "gfField", fn := fun _ => fun
  | [d1, d2, d3] => { results := [.lit (.bool true)], args := [d1, d2, d3] }
  | _ => none }
def gfFieldRow : OpenClaim := { program := "ytlbaacellnlpfaa", sum := "dab6871a7c5274628346da95d1d0e41e78a7be53186ede049043f879505f21db", func := "ramekin/ramekinlaw2.GfField", spec := "gfField", unfollowed := true, recurses := true, apart := false }
def GfFieldSaid : Prop := gfFieldRow.holds Try.pinned (OpenSpec.ofChange gfFieldSpec)

/-- ITS FALSE NEIGHBOUR: 'it returns false'. Refute it at one input. -/
def gfFieldWrong : ChangeSpec := { name := "gfField", fn := fun _ => fun
  | [d1, d2, d3] => { results := [.lit (.bool false)], args := [d1, d2, d3] }
  | _ => none }
def GfFieldWrongFalsely : Prop := gfFieldRow.holds Try.pinned (OpenSpec.ofChange gfFieldWrong)

/- THE SECOND FORM. 'bulk': how many values and letters a reading holds, each counted each time it is reached (what is shared counts as often as it is met; a slice's spare places count too). A statement '..UptoSaid' is the law's where the arguments, and the package variables that the reading takes, are together of bulk at most 1048576: NARROWER than '..Said'. Prove '..Said' where nothing that the law and all that it calls make is longer than what came in: it says more and counts as full. Else prove '..UptoSaid'. A law counts once. -/
mutual
def uptoBulk {H : Type} : DataW H → Nat
  | .lit (.string bytes) => bytes.length + 1
  | .lit _ => 1
  | .nil => 1
  | .ptr d => uptoBulk d + 1
  | .slice elems spare => uptoBulkAll elems + uptoBulkAll spare + 1
  | .agg parts => uptoBulkAll parts + 1
  | .iface _ d => uptoBulk d + 1
  | .map entries => uptoBulkEntries entries + 1
  | .held _ => 1
def uptoBulkAll {H : Type} : List (DataW H) → Nat
  | [] => 0
  | d :: r => uptoBulk d + uptoBulkAll r
def uptoBulkEntries {H : Type} : List (Lit × DataW H) → Nat
  | [] => 0
  | x :: r => uptoBulkEntry x + uptoBulkEntries r
def uptoBulkEntry {H : Type} : Lit × DataW H → Nat
  | (.string bytes, d) => bytes.length + uptoBulk d + 1
  | (_, d) => uptoBulk d + 1
 end
def uptoSmall : (H : Type) → List (DataW H) → Bool := fun _ ds => decide (uptoBulkAll ds ≤ 1048576)
def OpenSpec.upto (s : _root_.Go.ChangeSpec) : _root_.Go.OpenSpec := { _root_.Go.OpenSpec.ofChange s with cond := some uptoSmall }

/-- 'ramekinlaw2.GfMul', WHERE WHAT IT READS IS OF BULK AT MOST 1048576: true; the input reads as it did. -/
def gfMulUptoRow : OpenClaim := { program := "ytlbaacellnlpfaa", sum := "dab6871a7c5274628346da95d1d0e41e78a7be53186ede049043f879505f21db", func := "ramekin/ramekinlaw2.GfMul", spec := "gfMul", unfollowed := true, recurses := true, apart := false, narrowed := true }
def GfMulUptoSaid : Prop := gfMulUptoRow.holds Try.pinned (OpenSpec.upto gfMulSpec)

/-- 'ramekinlaw2.GfSquares', WHERE WHAT IT READS IS OF BULK AT MOST 1048576: true; the input reads as it did. -/
def gfSquaresUptoRow : OpenClaim := { program := "ytlbaacellnlpfaa", sum := "dab6871a7c5274628346da95d1d0e41e78a7be53186ede049043f879505f21db", func := "ramekin/ramekinlaw2.GfSquares", spec := "gfSquares", unfollowed := true, recurses := true, apart := false, narrowed := true }
def GfSquaresUptoSaid : Prop := gfSquaresUptoRow.holds Try.pinned (OpenSpec.upto gfSquaresSpec)

/-- 'ramekinlaw2.GfKnown', WHERE WHAT IT READS IS OF BULK AT MOST 1048576: true; the input reads as it did. -/
def gfKnownUptoRow : OpenClaim := { program := "ytlbaacellnlpfaa", sum := "dab6871a7c5274628346da95d1d0e41e78a7be53186ede049043f879505f21db", func := "ramekin/ramekinlaw2.GfKnown", spec := "gfKnown", unfollowed := true, recurses := true, apart := false, narrowed := true }
def GfKnownUptoSaid : Prop := gfKnownUptoRow.holds Try.pinned (OpenSpec.upto gfKnownSpec)

/-- 'ramekinlaw2.GfDoubles', WHERE WHAT IT READS IS OF BULK AT MOST 1048576: true; the input reads as it did. -/
def gfDoublesUptoRow : OpenClaim := { program := "ytlbaacellnlpfaa", sum := "dab6871a7c5274628346da95d1d0e41e78a7be53186ede049043f879505f21db", func := "ramekin/ramekinlaw2.GfDoubles", spec := "gfDoubles", unfollowed := true, recurses := true, apart := false, narrowed := true }
def GfDoublesUptoSaid : Prop := gfDoublesUptoRow.holds Try.pinned (OpenSpec.upto gfDoublesSpec)

/-- 'ramekinlaw2.GfQuotients', WHERE WHAT IT READS IS OF BULK AT MOST 1048576: true; the input reads as it did. -/
def gfQuotientsUptoRow : OpenClaim := { program := "ytlbaacellnlpfaa", sum := "dab6871a7c5274628346da95d1d0e41e78a7be53186ede049043f879505f21db", func := "ramekin/ramekinlaw2.GfQuotients", spec := "gfQuotients", unfollowed := true, recurses := true, apart := false, narrowed := true }
def GfQuotientsUptoSaid : Prop := gfQuotientsUptoRow.holds Try.pinned (OpenSpec.upto gfQuotientsSpec)

/-- 'ramekinlaw2.GfRound', WHERE WHAT IT READS IS OF BULK AT MOST 1048576: true; the input reads as it did. -/
def gfRoundUptoRow : OpenClaim := { program := "ytlbaacellnlpfaa", sum := "dab6871a7c5274628346da95d1d0e41e78a7be53186ede049043f879505f21db", func := "ramekin/ramekinlaw2.GfRound", spec := "gfRound", unfollowed := true, recurses := true, apart := false, narrowed := true }
def GfRoundUptoSaid : Prop := gfRoundUptoRow.holds Try.pinned (OpenSpec.upto gfRoundSpec)

/-- 'ramekinlaw2.GfOnce', WHERE WHAT IT READS IS OF BULK AT MOST 1048576: true; the input reads as it did. -/
def gfOnceUptoRow : OpenClaim := { program := "ytlbaacellnlpfaa", sum := "dab6871a7c5274628346da95d1d0e41e78a7be53186ede049043f879505f21db", func := "ramekin/ramekinlaw2.GfOnce", spec := "gfOnce", unfollowed := true, recurses := true, apart := false, narrowed := true }
def GfOnceUptoSaid : Prop := gfOnceUptoRow.holds Try.pinned (OpenSpec.upto gfOnceSpec)

/-- 'ramekinlaw2.GfPowers', WHERE WHAT IT READS IS OF BULK AT MOST 1048576: true; the input reads as it did. -/
def gfPowersUptoRow : OpenClaim := { program := "ytlbaacellnlpfaa", sum := "dab6871a7c5274628346da95d1d0e41e78a7be53186ede049043f879505f21db", func := "ramekin/ramekinlaw2.GfPowers", spec := "gfPowers", unfollowed := true, recurses := true, apart := false, narrowed := true }
def GfPowersUptoSaid : Prop := gfPowersUptoRow.holds Try.pinned (OpenSpec.upto gfPowersSpec)

/-- 'ramekinlaw2.GfField', WHERE WHAT IT READS IS OF BULK AT MOST 1048576: true; the input reads as it did. -/
def gfFieldUptoRow : OpenClaim := { program := "ytlbaacellnlpfaa", sum := "dab6871a7c5274628346da95d1d0e41e78a7be53186ede049043f879505f21db", func := "ramekin/ramekinlaw2.GfField", spec := "gfField", unfollowed := true, recurses := true, apart := false, narrowed := true }
def GfFieldUptoSaid : Prop := gfFieldUptoRow.holds Try.pinned (OpenSpec.upto gfFieldSpec)

end Rows
end Go.Proofs.Ytlbaacellnlpfaa
