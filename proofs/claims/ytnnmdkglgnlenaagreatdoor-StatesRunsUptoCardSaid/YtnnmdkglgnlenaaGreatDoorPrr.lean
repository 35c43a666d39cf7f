/-
  Part 18 of the proof: texts Ru. No conditions.
-/
import Derived.Test.YtnnmdkglgnlenaaGreatDoorRows
import Derived.Test.YtnnmdkglgnlenaaGreatDoorPre
import Derived.Test.YtnnmdkglgnlenaaGreatDoorPrl
import Derived.Test.YtnnmdkglgnlenaaGreatDoorPrq
set_option linter.unusedVariables false
set_option linter.unusedSimpArgs false
set_option linter.unusedSectionVars false
set_option maxRecDepth 100000
set_option maxHeartbeats 4000000
namespace Go.Proofs.YtnnmdkglgnlenaaGreatDoor
open Go Go.RowKit Go.Vx
section
variable {w : World} {n : Nat} {cs : List Value}
theorem rd_rws {m : Nat} (h : Rdv Tryz.prog w m 33 cs) : ∃ x : RwS, cs = x.cs ∧ RowA w x.A (x.l.flatMap Sym.cs) ∧ x.l.length ≤ 8796093022200 := by
  obtain ⟨A, cap, l, hc, _, h3, _, h5, h6, _⟩ := rd_syms (cs := cs) Tryz.underlying33 h
  exact ⟨⟨A, cap, l⟩, hc, h6, by rw [reach_is] at h5; simp only; omega⟩
theorem rd_rows {t : Nat} (hu : Tryz.prog.underlying t = some (.slice 33)) (h : Rdv Tryz.prog w n t cs) : ∃ A cap, ∃ l : List RwS, cs = [.slice A l.length cap] ∧ (A = none → cap = 0) ∧ l.length ≤ cap ∧ cap ≤ maxLen ∧ cap * 24 ≤ reachBytes ∧ RowA w A (l.flatMap RwS.cs) ∧ ∀ x ∈ l, RowA w x.A (x.l.flatMap Sym.cs) ∧ x.l.length ≤ 8796093022200 :=
  h.slice RwS.cs (fun x => RowA w x.A (x.l.flatMap Sym.cs) ∧ x.l.length ≤ 8796093022200) hu (by kernel_rfl) (by kernel_rfl) (B := 24) (k := 1) (fun _ => rfl) fun m cs' hl hr => rd_rws hr
end
end Go.Proofs.YtnnmdkglgnlenaaGreatDoor
