/-
  Node.Walk's sequence as an iterator's contract. No conditions.
-/
import Derived.Test.YthhbnodnpajljaaDg
set_option linter.unusedVariables false
set_option linter.unusedSimpArgs false
namespace Go.Proofs.Ythhbnodnpajljaa
open Go Go.RowKit Go.Vx
theorem walk_iter {B bx : Nat} {stv : Value} {X : Nat → Prop} {root : T} {w : World} (hb : Blk w bx #[root.ptr] 36) (hP : PN stv w root) (hW : WF root) (hsz : sz root ≤ 4194304) (hlow : ∀ b ∈ blocks root, b < B) (hXb : X bx ∨ bx < B)
    (hX : ∀ b, X b → B ≤ b ∧ b < w.heap.size) (hB : B ≤ w.heap.size) : Iter Try.prog 69 #[.pointer (some ⟨bx, 0, none⟩)] encW B X (walkT 0 root) w :=
  Iter.mk (lb := [.pointer (some ⟨bx, 0, none⟩)]) fun l J Jx W hm hJ hJx hy h0 => walk_calls l B bx stv root X J Jx W (hb.keep hm fun h => hXb.elim h.1 (by have := h.2; omega)) (PN.keep hm hP fun b hb h => by have := hlow b hb; have := h.2; omega) hW hsz hlow
    (fun b hb => ⟨(hX b hb).1, by have := (hX b hb).2; have := hm.size; omega⟩) (by have := hm.size; omega) hJ hJx hy h0
end Go.Proofs.Ythhbnodnpajljaa
