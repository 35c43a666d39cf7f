/-
  No cell of these rows narrows 'for every input' (looked for: loops, veiled, ifaces, maps, wideKeys, modest, calm, conditions, laid).
  DERIVED. THE GIVEN ROWS OF THIS SEAT. 10 by the template 'for every input the law returns true; each argument reads behind the call as it read before'; 0 by the template 'total and deterministic' (their statements: YthhbnodnpajljaaTotals.lean).
  GIVEN WITH THE SEED: the statements are not yours to turn. If you find one false, say at which input.
  Laid BY PROGRAM, IN A SANDBOX (cutbox-rows.mjs): the forced cells as the released guide's own fill.sh prints them over the translation 5c1799fa60e79979… (all of the seat's roots in one cut). By AI agents, Wed Nov 11 2026. No macro, syntax, notation, axiom, sorry.
-/
import Derived.Test.YthhbnodnpajljaaChecked
import GoSem.Claim
import GoSem.ClaimJoined
import GoSem.ClaimMapViews
import Derived.JoinedTies
import Derived.KernelRfl
namespace Go.Proofs.Ythhbnodnpajljaa
/- THE CELL 'sum', in the pinned program and in every row, IS THE sha256 OF THE DUMP (.gsa) THAT YthhbnodnpajljaaProg.lean LOADS. Nothing in Lean hashes anything: it is a label: what it is worth is what the hold of that sum in a sandbox is worth. -/
noncomputable def Try.pinned : Pinned := { name := "ythhbnodnpajljaa", sum := "5c1799fa60e79979ccb7f0e86426efa8575121bb0353bb97efe4316b98149abf", checked := Try.checked }
namespace Rows
def none {H : Type} : Left H := { results := [], args := [] }

/-- 'graftlaw15.DeltaLeaves': WHATEVER THE INPUT: true; the input reads as it did. -/
def deltaLeavesSpec : ChangeSpec := { name := "deltaLeaves", fn := fun _ => fun
  | [d1, d2] => { results := [.lit (.bool true)], args := [d1, d2] }
  | _ => none }
def deltaLeavesRow : OpenClaim := { program := "ythhbnodnpajljaa", sum := "5c1799fa60e79979ccb7f0e86426efa8575121bb0353bb97efe4316b98149abf", func := "graft/graftlaw15.DeltaLeaves", spec := "deltaLeaves", inPlace := ["sync/atomic.AddInt64"], unfollowed := true, recurses := true, apart := false }
def DeltaLeavesSaid : Prop := deltaLeavesRow.holds Try.pinned (OpenSpec.ofChange deltaLeavesSpec)

/-- ITS FALSE NEIGHBOUR: 'it returns false'. Refute it at one input. -/
def deltaLeavesWrong : ChangeSpec := { name := "deltaLeaves", fn := fun _ => fun
  | [d1, d2] => { results := [.lit (.bool false)], args := [d1, d2] }
  | _ => none }
def DeltaLeavesWrongFalsely : Prop := deltaLeavesRow.holds Try.pinned (OpenSpec.ofChange deltaLeavesWrong)

/-- 'graftlaw15.DeltaMoves': WHATEVER THE INPUT: true; the input reads as it did. -/
def deltaMovesSpec : ChangeSpec := { name := "deltaMoves", fn := fun _ => fun
  | [d1, d2, d3] => { results := [.lit (.bool true)], args := [d1, d2, d3] }
  | _ => none }
def deltaMovesRow : OpenClaim := { program := "ythhbnodnpajljaa", sum := "5c1799fa60e79979ccb7f0e86426efa8575121bb0353bb97efe4316b98149abf", func := "graft/graftlaw15.DeltaMoves", spec := "deltaMoves", inPlace := ["sync/atomic.AddInt64"], unfollowed := true, recurses := true, apart := false }
def DeltaMovesSaid : Prop := deltaMovesRow.holds Try.pinned (OpenSpec.ofChange deltaMovesSpec)

/-- ITS FALSE NEIGHBOUR: 'it returns false'. Refute it at one input. -/
def deltaMovesWrong : ChangeSpec := { name := "deltaMoves", fn := fun _ => fun
  | [d1, d2, d3] => { results := [.lit (.bool false)], args := [d1, d2, d3] }
  | _ => none }
def DeltaMovesWrongFalsely : Prop := deltaMovesRow.holds Try.pinned (OpenSpec.ofChange deltaMovesWrong)

/-- 'graftlaw15.DeltaScripts': WHATEVER THE INPUT: true; the input reads as it did. -/
def deltaScriptsSpec : ChangeSpec := { name := "deltaScripts", fn := fun _ => fun
  | [d1, d2] => { results := [.lit (.bool true)], args := [d1, d2] }
  | _ => none }
def deltaScriptsRow : OpenClaim := { program := "ythhbnodnpajljaa", sum := "5c1799fa60e79979ccb7f0e86426efa8575121bb0353bb97efe4316b98149abf", func := "graft/graftlaw15.DeltaScripts", spec := "deltaScripts", inPlace := ["sync/atomic.AddInt64"], unfollowed := true, recurses := true, apart := false }
def DeltaScriptsSaid : Prop := deltaScriptsRow.holds Try.pinned (OpenSpec.ofChange deltaScriptsSpec)

/-- ITS FALSE NEIGHBOUR: 'it returns false'. Refute it at one input. -/
def deltaScriptsWrong : ChangeSpec := { name := "deltaScripts", fn := fun _ => fun
  | [d1, d2] => { results := [.lit (.bool false)], args := [d1, d2] }
  | _ => none }
def DeltaScriptsWrongFalsely : Prop := deltaScriptsRow.holds Try.pinned (OpenSpec.ofChange deltaScriptsWrong)

/-- 'graftlaw15.DeltaBytes': WHATEVER THE INPUT: true; the input reads as it did. -/
def deltaBytesSpec : ChangeSpec := { name := "deltaBytes", fn := fun _ => fun
  | [d1, d2] => { results := [.lit (.bool true)], args := [d1, d2] }
  | _ => none }
def deltaBytesRow : OpenClaim := { program := "ythhbnodnpajljaa", sum := "5c1799fa60e79979ccb7f0e86426efa8575121bb0353bb97efe4316b98149abf", func := "graft/graftlaw15.DeltaBytes", spec := "deltaBytes", inPlace := ["sync/atomic.AddInt64"], unfollowed := true, recurses := true, apart := false }
def DeltaBytesSaid : Prop := deltaBytesRow.holds Try.pinned (OpenSpec.ofChange deltaBytesSpec)

/-- ITS FALSE NEIGHBOUR: 'it returns false'. Refute it at one input. -/
def deltaBytesWrong : ChangeSpec := { name := "deltaBytes", fn := fun _ => fun
  | [d1, d2] => { results := [.lit (.bool false)], args := [d1, d2] }
  | _ => none }
def DeltaBytesWrongFalsely : Prop := deltaBytesRow.holds Try.pinned (OpenSpec.ofChange deltaBytesWrong)

/-- 'graftlaw15.DeltaChain': WHATEVER THE INPUT: true; the input reads as it did. -/
def deltaChainSpec : ChangeSpec := { name := "deltaChain", fn := fun _ => fun
  | [d1, d2, d3, d4] => { results := [.lit (.bool true)], args := [d1, d2, d3, d4] }
  | _ => none }
def deltaChainRow : OpenClaim := { program := "ythhbnodnpajljaa", sum := "5c1799fa60e79979ccb7f0e86426efa8575121bb0353bb97efe4316b98149abf", func := "graft/graftlaw15.DeltaChain", spec := "deltaChain", inPlace := ["sync/atomic.AddInt64"], unfollowed := true, recurses := true, apart := false }
def DeltaChainSaid : Prop := deltaChainRow.holds Try.pinned (OpenSpec.ofChange deltaChainSpec)

/-- ITS FALSE NEIGHBOUR: 'it returns false'. Refute it at one input. -/
def deltaChainWrong : ChangeSpec := { name := "deltaChain", fn := fun _ => fun
  | [d1, d2, d3, d4] => { results := [.lit (.bool false)], args := [d1, d2, d3, d4] }
  | _ => none }
def DeltaChainWrongFalsely : Prop := deltaChainRow.holds Try.pinned (OpenSpec.ofChange deltaChainWrong)

/-- 'graftlaw15.DeltaBook': WHATEVER THE INPUT: true; the input reads as it did. -/
def deltaBookSpec : ChangeSpec := { name := "deltaBook", fn := fun _ => fun
  | [d1, d2] => { results := [.lit (.bool true)], args := [d1, d2] }
  | _ => none }
def deltaBookRow : OpenClaim := { program := "ythhbnodnpajljaa", sum := "5c1799fa60e79979ccb7f0e86426efa8575121bb0353bb97efe4316b98149abf", func := "graft/graftlaw15.DeltaBook", spec := "deltaBook", inPlace := ["sync/atomic.AddInt64"], unfollowed := true, recurses := true, apart := false }
def DeltaBookSaid : Prop := deltaBookRow.holds Try.pinned (OpenSpec.ofChange deltaBookSpec)

/-- ITS FALSE NEIGHBOUR: 'it returns false'. Refute it at one input. -/
def deltaBookWrong : ChangeSpec := { name := "deltaBook", fn := fun _ => fun
  | [d1, d2] => { results := [.lit (.bool false)], args := [d1, d2] }
  | _ => none }
def DeltaBookWrongFalsely : Prop := deltaBookRow.holds Try.pinned (OpenSpec.ofChange deltaBookWrong)

/-- 'graftlaw15.DeltaRanges': WHATEVER THE INPUT: true; the input reads as it did. -/
def deltaRangesSpec : ChangeSpec := { name := "deltaRanges", fn := fun _ => fun
  | [d1, d2, d3] => { results := [.lit (.bool true)], args := [d1, d2, d3] }
  | _ => none }
def deltaRangesRow : OpenClaim := { program := "ythhbnodnpajljaa", sum := "5c1799fa60e79979ccb7f0e86426efa8575121bb0353bb97efe4316b98149abf", func := "graft/graftlaw15.DeltaRanges", spec := "deltaRanges", inPlace := ["sync/atomic.AddInt64"], unfollowed := true, recurses := true, apart := false }
def DeltaRangesSaid : Prop := deltaRangesRow.holds Try.pinned (OpenSpec.ofChange deltaRangesSpec)

/-- ITS FALSE NEIGHBOUR: 'it returns false'. Refute it at one input. -/
def deltaRangesWrong : ChangeSpec := { name := "deltaRanges", fn := fun _ => fun
  | [d1, d2, d3] => { results := [.lit (.bool false)], args := [d1, d2, d3] }
  | _ => none }
def DeltaRangesWrongFalsely : Prop := deltaRangesRow.holds Try.pinned (OpenSpec.ofChange deltaRangesWrong)

/-- 'graftlaw15.DeltaGaps': WHATEVER THE INPUT: true; the input reads as it did. -/
def deltaGapsSpec : ChangeSpec := { name := "deltaGaps", fn := fun _ => fun
  | [d1, d2] => { results := [.lit (.bool true)], args := [d1, d2] }
  | _ => none }
def deltaGapsRow : OpenClaim := { program := "ythhbnodnpajljaa", sum := "5c1799fa60e79979ccb7f0e86426efa8575121bb0353bb97efe4316b98149abf", func := "graft/graftlaw15.DeltaGaps", spec := "deltaGaps", inPlace := ["sync/atomic.AddInt64"], unfollowed := true, recurses := true, apart := false }
def DeltaGapsSaid : Prop := deltaGapsRow.holds Try.pinned (OpenSpec.ofChange deltaGapsSpec)

/-- ITS FALSE NEIGHBOUR: 'it returns false'. Refute it at one input. -/
def deltaGapsWrong : ChangeSpec := { name := "deltaGaps", fn := fun _ => fun
  | [d1, d2] => { results := [.lit (.bool false)], args := [d1, d2] }
  | _ => none }
def DeltaGapsWrongFalsely : Prop := deltaGapsRow.holds Try.pinned (OpenSpec.ofChange deltaGapsWrong)

/-- 'graftlaw15.DeltaApplies': WHATEVER THE INPUT: true; the input reads as it did. -/
def deltaAppliesSpec : ChangeSpec := { name := "deltaApplies", fn := fun _ => fun
  | [d1, d2, d3, d4] => { results := [.lit (.bool true)], args := [d1, d2, d3, d4] }
  | _ => none }
def deltaAppliesRow : OpenClaim := { program := "ythhbnodnpajljaa", sum := "5c1799fa60e79979ccb7f0e86426efa8575121bb0353bb97efe4316b98149abf", func := "graft/graftlaw15.DeltaApplies", spec := "deltaApplies", inPlace := ["sync/atomic.AddInt64"], unfollowed := true, recurses := true, apart := false }
def DeltaAppliesSaid : Prop := deltaAppliesRow.holds Try.pinned (OpenSpec.ofChange deltaAppliesSpec)

/-- ITS FALSE NEIGHBOUR: 'it returns false'. Refute it at one input. -/
def deltaAppliesWrong : ChangeSpec := { name := "deltaApplies", fn := fun _ => fun
  | [d1, d2, d3, d4] => { results := [.lit (.bool false)], args := [d1, d2, d3, d4] }
  | _ => none }
def DeltaAppliesWrongFalsely : Prop := deltaAppliesRow.holds Try.pinned (OpenSpec.ofChange deltaAppliesWrong)

/-- 'graftlaw15.DeltaMakes': WHATEVER THE INPUT: true; the input reads as it did. -/
def deltaMakesSpec : ChangeSpec := { name := "deltaMakes", fn := fun _ => fun
  | [d1, d2] => { results := [.lit (.bool true)], args := [d1, d2] }
  | _ => none }
def deltaMakesRow : OpenClaim := { program := "ythhbnodnpajljaa", sum := "5c1799fa60e79979ccb7f0e86426efa8575121bb0353bb97efe4316b98149abf", func := "graft/graftlaw15.DeltaMakes", spec := "deltaMakes", inPlace := ["sync/atomic.AddInt64"], unfollowed := true, recurses := true, apart := false }
def DeltaMakesSaid : Prop := deltaMakesRow.holds Try.pinned (OpenSpec.ofChange deltaMakesSpec)

/-- ITS FALSE NEIGHBOUR: 'it returns false'. Refute it at one input. -/
def deltaMakesWrong : ChangeSpec := { name := "deltaMakes", fn := fun _ => fun
  | [d1, d2] => { results := [.lit (.bool false)], args := [d1, d2] }
  | _ => none }
def DeltaMakesWrongFalsely : Prop := deltaMakesRow.holds Try.pinned (OpenSpec.ofChange deltaMakesWrong)

/- THE SECOND FORM. 'bulk': how many values and letters a reading holds, each counted each time it is reached (what is shared counts as often as it is met; a slice's spare places count too). A statement '..UptoSaid' is the law's where the arguments, and the package variables that the reading takes, are together of bulk at most 1048576: NARROWER than '..Said'. Prove '..Said' where nothing that the law and all that it calls make is longer than what came in: it says more and counts as full. Else prove '..UptoSaid'. A law counts once. -/
mutual
def uptoBulk {H : Type} : DataW H → Nat
  | .lit (.string bytes) => bytes.length + 1
  | .lit _ => 1
  | .nil => 1
  | .ptr d => uptoBulk d + 1
  | .slice elems spare => uptoBulkAll elems + uptoBulkAll spare + 1
  | .agg parts => uptoBulkAll parts + 1
  | .iface _ d => uptoBulk d + 1
  | .map entries => uptoBulkEntries entries + 1
  | .held _ => 1
def uptoBulkAll {H : Type} : List (DataW H) → Nat
  | [] => 0
  | d :: r => uptoBulk d + uptoBulkAll r
def uptoBulkEntries {H : Type} : List (Lit × DataW H) → Nat
  | [] => 0
  | x :: r => uptoBulkEntry x + uptoBulkEntries r
def uptoBulkEntry {H : Type} : Lit × DataW H → Nat
  | (.string bytes, d) => bytes.length + uptoBulk d + 1
  | (_, d) => uptoBulk d + 1
 end
def uptoSmall : (H : Type) → List (DataW H) → Bool := fun _ ds => decide (uptoBulkAll ds ≤ 1048576)
def OpenSpec.upto (s : _root_.Go.ChangeSpec) : _root_.Go.OpenSpec := { _root_.Go.OpenSpec.ofChange s with cond := some uptoSmall }

/-- 'graftlaw15.DeltaLeaves', WHERE WHAT IT READS IS OF BULK AT MOST 1048576: true; the input reads as it did. -/
def deltaLeavesUptoRow : OpenClaim := { program := "ythhbnodnpajljaa", sum := "5c1799fa60e79979ccb7f0e86426efa8575121bb0353bb97efe4316b98149abf", func := "graft/graftlaw15.DeltaLeaves", spec := "deltaLeaves", inPlace := ["sync/atomic.AddInt64"], unfollowed := true, recurses := true, apart := false, narrowed := true }
def DeltaLeavesUptoSaid : Prop := deltaLeavesUptoRow.holds Try.pinned (OpenSpec.upto deltaLeavesSpec)

/-- 'graftlaw15.DeltaMoves', WHERE WHAT IT READS IS OF BULK AT MOST 1048576: true; the input reads as it did. -/
def deltaMovesUptoRow : OpenClaim := { program := "ythhbnodnpajljaa", sum := "5c1799fa60e79979ccb7f0e86426efa8575121bb0353bb97efe4316b98149abf", func := "graft/graftlaw15.DeltaMoves", spec := "deltaMoves", inPlace := ["sync/atomic.AddInt64"], unfollowed := true, recurses := true, apart := false, narrowed := true }
def DeltaMovesUptoSaid : Prop := deltaMovesUptoRow.holds Try.pinned (OpenSpec.upto deltaMovesSpec)

/-- 'graftlaw15.DeltaScripts', WHERE WHAT IT READS IS OF BULK AT MOST 1048576: true; the input reads as it did. -/
def deltaScriptsUptoRow : OpenClaim := { program := "ythhbnodnpajljaa", sum := "5c1799fa60e79979ccb7f0e86426efa8575121bb0353bb97efe4316b98149abf", func := "graft/graftlaw15.DeltaScripts", spec := "deltaScripts", inPlace := ["sync/atomic.AddInt64"], unfollowed := true, recurses := true, apart := false, narrowed := true }
def DeltaScriptsUptoSaid : Prop := deltaScriptsUptoRow.holds Try.pinned (OpenSpec.upto deltaScriptsSpec)

/-- 'graftlaw15.DeltaBytes', WHERE WHAT IT READS IS OF BULK AT MOST 1048576: true; the input reads as it did. -/
def deltaBytesUptoRow : OpenClaim := { program := "ythhbnodnpajljaa", sum := "5c1799fa60e79979ccb7f0e86426efa8575121bb0353bb97efe4316b98149abf", func := "graft/graftlaw15.DeltaBytes", spec := "deltaBytes", inPlace := ["sync/atomic.AddInt64"], unfollowed := true, recurses := true, apart := false, narrowed := true }
def DeltaBytesUptoSaid : Prop := deltaBytesUptoRow.holds Try.pinned (OpenSpec.upto deltaBytesSpec)

/-- 'graftlaw15.DeltaChain', WHERE WHAT IT READS IS OF BULK AT MOST 1048576: true; the input reads as it did. -/
def deltaChainUptoRow : OpenClaim := { program := "ythhbnodnpajljaa", sum := "5c1799fa60e79979ccb7f0e86426efa8575121bb0353bb97efe4316b98149abf", func := "graft/graftlaw15.DeltaChain", spec := "deltaChain", inPlace := ["sync/atomic.AddInt64"], unfollowed := true, recurses := true, apart := false, narrowed := true }
def DeltaChainUptoSaid : Prop := deltaChainUptoRow.holds Try.pinned (OpenSpec.upto deltaChainSpec)

/-- 'graftlaw15.DeltaBook', WHERE WHAT IT READS IS OF BULK AT MOST 1048576: true; the input reads as it did. -/
def deltaBookUptoRow : OpenClaim := { program := "ythhbnodnpajljaa", sum := "5c1799fa60e79979ccb7f0e86426efa8575121bb0353bb97efe4316b98149abf", func := "graft/graftlaw15.DeltaBook", spec := "deltaBook", inPlace := ["sync/atomic.AddInt64"], unfollowed := true, recurses := true, apart := false, narrowed := true }
def DeltaBookUptoSaid : Prop := deltaBookUptoRow.holds Try.pinned (OpenSpec.upto deltaBookSpec)

/-- 'graftlaw15.DeltaRanges', WHERE WHAT IT READS IS OF BULK AT MOST 1048576: true; the input reads as it did. -/
def deltaRangesUptoRow : OpenClaim := { program := "ythhbnodnpajljaa", sum := "5c1799fa60e79979ccb7f0e86426efa8575121bb0353bb97efe4316b98149abf", func := "graft/graftlaw15.DeltaRanges", spec := "deltaRanges", inPlace := ["sync/atomic.AddInt64"], unfollowed := true, recurses := true, apart := false, narrowed := true }
def DeltaRangesUptoSaid : Prop := deltaRangesUptoRow.holds Try.pinned (OpenSpec.upto deltaRangesSpec)

/-- 'graftlaw15.DeltaGaps', WHERE WHAT IT READS IS OF BULK AT MOST 1048576: true; the input reads as it did. -/
def deltaGapsUptoRow : OpenClaim := { program := "ythhbnodnpajljaa", sum := "5c1799fa60e79979ccb7f0e86426efa8575121bb0353bb97efe4316b98149abf", func := "graft/graftlaw15.DeltaGaps", spec := "deltaGaps", inPlace := ["sync/atomic.AddInt64"], unfollowed := true, recurses := true, apart := false, narrowed := true }
def DeltaGapsUptoSaid : Prop := deltaGapsUptoRow.holds Try.pinned (OpenSpec.upto deltaGapsSpec)

/-- 'graftlaw15.DeltaApplies', WHERE WHAT IT READS IS OF BULK AT MOST 1048576: true; the input reads as it did. -/
def deltaAppliesUptoRow : OpenClaim := { program := "ythhbnodnpajljaa", sum := "5c1799fa60e79979ccb7f0e86426efa8575121bb0353bb97efe4316b98149abf", func := "graft/graftlaw15.DeltaApplies", spec := "deltaApplies", inPlace := ["sync/atomic.AddInt64"], unfollowed := true, recurses := true, apart := false, narrowed := true }
def DeltaAppliesUptoSaid : Prop := deltaAppliesUptoRow.holds Try.pinned (OpenSpec.upto deltaAppliesSpec)

/-- 'graftlaw15.DeltaMakes', WHERE WHAT IT READS IS OF BULK AT MOST 1048576: true; the input reads as it did. -/
def deltaMakesUptoRow : OpenClaim := { program := "ythhbnodnpajljaa", sum := "5c1799fa60e79979ccb7f0e86426efa8575121bb0353bb97efe4316b98149abf", func := "graft/graftlaw15.DeltaMakes", spec := "deltaMakes", inPlace := ["sync/atomic.AddInt64"], unfollowed := true, recurses := true, apart := false, narrowed := true }
def DeltaMakesUptoSaid : Prop := deltaMakesUptoRow.holds Try.pinned (OpenSpec.upto deltaMakesSpec)

end Rows
end Go.Proofs.Ythhbnodnpajljaa
