/-
  The trees of the laws' head, as data. No conditions.
-/
import Derived.Test.YthhbnodnpajljaaDn
import Derived.Test.YthhbnodnpajljaaDq
set_option linter.unusedVariables false
set_option linter.unusedSimpArgs false
namespace Go.Proofs.Ythhbnodnpajljaa
open Go Go.RowKit Go.Vx
section
variable (bx by_ b1 b2 : Nat) (k1 k2 : Option Nat) (c1 c2 : Nat)
abbrev hX (bx : Nat) : T := leafT bx 1 ⟨0, 0, 2, 0⟩
abbrev hY (b : Nat) : T := leafT b 2 ⟨0, 0, 1, 0⟩
abbrev hA : T := .mk b1 k1 c1 3 3 0 lf0 [hX bx]
abbrev hB : T := .mk b2 k2 c2 4 3 0 lf0 [hY by_, hX bx]
theorem head_hunks : hunks (ids (leafI (hA bx b1 k1 c1))) (ids (leafI (hB bx by_ b2 k2 c2))) = [⟨0, 0, 0, 1⟩] := by
  have h1 : ids (leafI (hA bx b1 k1 c1)) = [1] := by simp [leafI, walkT, walkL, leafT, isLeaf, ids, T.kind, T.id]
  have h2 : ids (leafI (hB bx by_ b2 k2 c2)) = [2, 1] := by simp [leafI, walkT, walkL, leafT, isLeaf, ids, T.kind, T.id]
  rw [h1, h2]; decide
theorem head_script : script (fun k => (lookM (kn (walkT 0 (hA bx b1 k1 c1))) k).isSome) (hB bx by_ b2 k2 c2) = [leafO ⟨0, 0, 1, 0⟩, keepO 1, makeO 3 0 2] := by
  simp [walkT, walkL, leafT, kn, setM, lookM, T.id, T.ptr, script, scriptL]
end
end Go.Proofs.Ythhbnodnpajljaa
