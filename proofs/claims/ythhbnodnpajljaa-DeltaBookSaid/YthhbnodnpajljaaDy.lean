/-
  What the packages' maps of nodes are, as data. No conditions.
-/
import Derived.Test.YthhbnodnpajljaaDh
import Derived.Test.YthhbnodnpajljaaVxf
set_option linter.unusedVariables false
set_option linter.unusedSimpArgs false
namespace Go.Proofs.Ythhbnodnpajljaa
open Go Go.RowKit Go.Vx

theorem snoc_ind {α : Type} {P : List α → Prop} (h0 : P []) (h1 : ∀ l a, P l → P (l ++ [a])) (l : List α) : P l := by
  have : ∀ r : List α, P r.reverse := fun r => by
    induction r with
    | nil => exact h0
    | cons a r ih => rw [List.reverse_cons]; exact h1 _ _ ih
  simpa using this l.reverse
abbrev encI : Int → Value := fun i : Int => .int .i64 i
/-- known's map, of what the walk has told -/
def kn (l : List (Int × T)) : List (Int × Value) := l.foldl (fun m p => setM m p.2.id p.2.ptr) []
theorem kn_snoc (l : List (Int × T)) (p : Int × T) : kn (l ++ [p]) = setM (kn l) p.2.id p.2.ptr := by simp [kn]
theorem kn_look : ∀ (l : List (Int × T)) (k : Int), ((lookM (kn l) k).isSome = true ↔ ∃ p ∈ l, p.2.id = k) ∧ (∀ v, lookM (kn l) k = some v → ∃ p ∈ l, p.2.id = k ∧ v = p.2.ptr) := by
  intro l k
  refine snoc_ind (P := fun l => ((lookM (kn l) k).isSome = true ↔ ∃ p ∈ l, p.2.id = k) ∧ (∀ v, lookM (kn l) k = some v → ∃ p ∈ l, p.2.id = k ∧ v = p.2.ptr)) ?_ ?_ l
  · simp [kn, lookM]
  · intro l p ih
    rw [kn_snoc, lookM_setM]
    by_cases h : k = p.2.id
    · rw [if_pos h]
      exact ⟨⟨fun _ => ⟨p, by simp, h.symm⟩, fun _ => rfl⟩, fun v hv => ⟨p, by simp, h.symm, by simpa using hv.symm⟩⟩
    · rw [if_neg h]
      refine ⟨ih.1.trans ⟨fun ⟨q, h1, h2⟩ => ⟨q, by simp [h1], h2⟩, fun ⟨q, h1, h2⟩ => ?_⟩, fun v hv => ?_⟩
      · rcases List.mem_append.1 h1 with h1 | h1
        · exact ⟨q, h1, h2⟩
        · simp at h1; subst h1; exact absurd h2.symm h
      · obtain ⟨q, h1, h2⟩ := ih.2 v hv; exact ⟨q, by simp [h1], h2⟩
/-- within known's range -/
structure KnI (B : Nat) (w : World) (tb mb : Nat) (pre : List (Int × T)) (Y : Nat → Prop) (W : World) : Prop where
  blk : Blk W tb #[.map (some mb)] 111
  map : MapB encI W mb (kn pre)
  ny : ¬ Y tb ∧ ¬ Y mb
  low : B ≤ tb ∧ B ≤ mb
  chg : Chg (fun b => B ≤ b) w W
theorem knI_stab {B : Nat} {w : World} {tb mb : Nat} : Stab B (KnI B w tb mb) := by
  intro pre Y W Y2 W2 hY h hc hY2
  have h1 := h.blk.lt; have h2 := h.map.lt
  exact ⟨h.blk.keep hc h.ny.1, h.map.keep hc h.ny.2, ⟨fun h3 => (hY2 _ h3).elim h.ny.1 fun h4 => by omega, fun h3 => (hY2 _ h3).elim h.ny.2 fun h4 => by omega⟩, h.low, Chg.trans h.chg hc fun b hb _ => (hY b hb).1⟩
end Go.Proofs.Ythhbnodnpajljaa
