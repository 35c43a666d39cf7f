/-
  Part 19 of the proof: texts Ru. No conditions.
-/
import Derived.Test.YtnnmdkglgnlenaaGreatDoorRows
import Derived.Test.YtnnmdkglgnlenaaGreatDoorPbf
import Derived.Test.YtnnmdkglgnlenaaGreatDoorPbl
import Derived.Test.YtnnmdkglgnlenaaGreatDoorPbr
set_option linter.unusedVariables false
set_option linter.unusedSimpArgs false
set_option linter.unusedSectionVars false
set_option maxRecDepth 100000
set_option maxHeartbeats 4000000
namespace Go.Proofs.YtnnmdkglgnlenaaGreatDoor
open Go Go.RowKit Go.Vx
section
variable {w : World} {n : Nat} {cs : List Value}
theorem rd_specs {t : Nat} (hu : Tryz.prog.underlying t = some (.slice 26)) (h : Rdv Tryz.prog w n t cs) : ∃ A cap, ∃ l : List SP, cs = [.slice A l.length cap] ∧ (A = none → cap = 0) ∧ l.length ≤ cap ∧ cap ≤ maxLen ∧ cap * 80 ≤ reachBytes ∧ RowA w A (l.flatMap SP.cs) ∧ ∀ x ∈ l, SpR w x ∧ R64 x.start :=
  h.slice SP.cs (fun x => SpR w x ∧ R64 x.start) hu (by kernel_rfl) (by kernel_rfl) (B := 80) (k := 4) (fun _ => rfl) fun m cs' hl hr => rd_spec hl hr
end
end Go.Proofs.YtnnmdkglgnlenaaGreatDoor
