/-
  Moving a place along edits, plainly: along two rows, along one edit of a text. No conditions.
-/
import Derived.Test.YthhbnodnpajljaaDeb
set_option linter.unusedVariables false
set_option linter.unusedSimpArgs false
namespace Go.Proofs.Ythhbnodnpajljaa
open Go Go.RowKit Go.Vx

theorem mvGo_app (bias : Int) (b : List E3) : ∀ (a : List E3) (p : Int), (mvGo bias p a).2 = 0 → mvGo bias p (a ++ b) = mvGo bias (mvGo bias p a).1 b
  | [], p, _ => rfl
  | e :: a, p, h => by
    simp only [List.cons_append, mvGo] at h ⊢
    split at h
    · simp at h
    · rename_i h1
      rw [if_neg h1, if_neg h1]
      split at h
      · simp at h
      · rename_i h2
        rw [if_neg h2, if_neg h2]
        exact mvGo_app bias b a _ h
theorem mvGo_stop (bias : Int) (b : List E3) : ∀ (a : List E3) (p : Int), (mvGo bias p a).2 ≠ 0 → mvGo bias p (a ++ b) = mvGo bias p a ∧ (mvGo bias p a).1 = 0
  | [], p, h => by simp [mvGo] at h
  | e :: a, p, h => by
    simp only [List.cons_append, mvGo] at h ⊢
    split at h
    · rename_i h1; rw [if_pos h1, if_pos h1]; exact ⟨rfl, rfl⟩
    · rename_i h1
      rw [if_neg h1, if_neg h1]
      split at h
      · rename_i h2; rw [if_pos h2, if_pos h2]; exact ⟨rfl, rfl⟩
      · rename_i h2
        rw [if_neg h2, if_neg h2]
        exact mvGo_stop bias b a _ h
theorem mvGo_fine (bias : Int) : ∀ (a : List E3) (p : Int), ¬ big p → (mvGo bias p a).2 = 0 → ¬ big (mvGo bias p a).1
  | [], p, h, _ => h
  | e :: a, p, h, h0 => by
    simp only [mvGo] at h0 ⊢
    split at h0
    · simp at h0
    · rename_i h1
      rw [if_neg h1]
      split at h0
      · simp at h0
      · rename_i h2
        rw [if_neg h2]
        exact mvGo_fine bias a _ h2 h0
theorem move_chain {p bias : Int} {a b : List E3} (hl : a.length + b.length ≤ 4096) :
    ((move p bias a).2 ≠ 0 → (move p bias a).2 = (move p bias (a ++ b)).2 ∧ (move p bias a).1 = 0 ∧ (move p bias (a ++ b)).1 = 0) ∧
    ((move p bias a).2 = 0 → (move (move p bias a).1 bias b).1 = (move p bias (a ++ b)).1 ∧ (move (move p bias a).1 bias b).2 = (move p bias (a ++ b)).2) := by
  unfold move
  by_cases hp : big p
  · simp [hp]
  · rw [if_neg hp, if_neg hp, if_neg (show ¬ 4096 < a.length by omega), if_neg (show ¬ 4096 < (a ++ b).length by rw [List.length_append]; omega), if_neg (show ¬ 4096 < b.length by omega)]
    refine ⟨fun h => ?_, fun h => ?_⟩
    · obtain ⟨h1, h2⟩ := mvGo_stop bias b a p h
      rw [h1]; exact ⟨rfl, h2, h2⟩
    · rw [if_neg (mvGo_fine bias a p hp h), mvGo_app bias b a p h]
      exact ⟨rfl, rfl⟩
theorem RowA.take {w : World} {A : Option Addr} {vs : List Value} (h : RowA w A vs) (k : Nat) : RowA w A (vs.take k) := by
  cases A with
  | none => rw [show vs = [] from h, List.take_nil]; exact RowA.nil w _
  | some a =>
    refine ⟨fun hv => h.1 fun h0 => hv (by rw [h0, List.take_nil]), CellsL.of_get fun j v hj => ?_⟩
    rw [List.getElem?_take] at hj
    split at hj
    · exact cellsL_get h.2 hj
    · cases hj
theorem byC_take (l : List UInt8) (k : Nat) : (byC l).take k = byC (l.take k) := by simp [byC, List.map_take]
theorem byC_drop (l : List UInt8) (k : Nat) : (byC l).drop k = byC (l.drop k) := by simp [byC, List.map_drop]
theorem byC_app (a b : List UInt8) : byC a ++ byC b = byC (a ++ b) := by simp [byC]
/-- x[lo:] of a row that can be read -/
theorem ox_sliceFromR {P : Program} {ρ : Operand → Value} {w : World} {K : Value → World → Prop} {dst : Option Tmp} {ty : TypeId} {pos : String} {af : Array Edge} {gd : Option (Nat × Bool)} {x y : Operand} {t e : TypeId} {sz by_ : Nat} {z : Value} {A : Option Addr} {n cp : Nat} {k : IntKind} {i : Int} {vs : List Value}
    (i0 : Nat) (ht : sliceT P t = some (e, sz, by_, z)) (hx : ρ x = .slice A n cp) (hy : ρ y = .int k i) (hi : i = i0) (h1 : i0 ≤ n) (hc : n ≤ cp) (hA : RowA w A vs) (hl : vs.length = n * sz)
    (h : ∀ A', RowA w A' (vs.drop (i0 * sz)) → (A' = none → A = none) → K (.slice A' (n - i0) (cp - i0)) w) : OpX P ⟨dst, .slice t x (some y) none none, ty, pos, af, gd⟩ ρ w K := by
  subst hi
  refine ox_sliceFrom ht hx hy (by omega) (by omega) ?_
  rw [show ((i0 : Nat) : Int).toNat = i0 by omega]
  refine h _ ?_ ?_
  · by_cases hcp : cp = i0
    · have hn : n = i0 := by omega
      rw [if_pos hcp, List.drop_eq_nil_of_le (by rw [hl, hn]; exact Nat.le_refl _)]
      exact RowA.nil w _
    · rw [if_neg hcp]
      cases A with
      | none => rw [show vs = [] from hA]; simp [RowA]
      | some a =>
        by_cases hv : vs = []
        · subst hv; simp only [List.drop_nil]; exact RowA.nil w _
        · have ha := hA.1 hv
          have e1 : a.add (i0 * sz) = ⟨a.block, a.off + i0 * sz, none⟩ := by
            unfold Addr.add; split
            · rename_i h0; rw [h0]; exact ha
            · rfl
          show RowA w (some (a.add (i0 * sz))) _
          rw [e1]
          refine ⟨fun _ => rfl, CellsL.of_get fun j v hj => ?_⟩
          rw [List.getElem?_drop] at hj
          have := cellsL_get hA.2 hj
          rw [show a.off + i0 * sz + j = a.off + (i0 * sz + j) by omega]
          exact this
  · intro h2
    split at h2
    · exact h2
    · cases A <;> simp at h2 ⊢
/-! ### one edit of a text of n bytes: k bytes are laid in at a, behind d that are struck -/
theorem move_one {p bias : Int} {a d k : Nat} (n : Nat) (hp : 0 ≤ p ∧ p ≤ n) (hn : n ≤ 300) (had : a + d ≤ n) (hk : k ≤ 1000) : move p bias [((a : Int), (d : Int), (k : Int))] = (mv1 bias p a d k, 0) := by
  unfold move
  have h1 : ¬ big p := by unfold big; omega
  have h2 : ¬ (big (a : Int) ∨ big (d : Int) ∨ (262144 : Int) < k) := by unfold big; omega
  have h3 : ¬ big (mv1 bias p a d k) := by unfold big mv1; repeat' split
                                           all_goals omega
  rw [if_neg h1, if_neg (by simp)]
  simp only [mvGo]
  rw [if_neg h2, if_neg h3]
theorem mv_facts (p a d k n : Nat) (had : a + d ≤ n) : mv1 (-1) p a d k ≤ mv1 0 p a d k ∧ 0 ≤ mv1 (-1) p a d k ∧ mv1 0 p a d k ≤ mv1 0 (p + 1) a d k ∧ mv1 (-1) p a d k ≤ mv1 (-1) (p + 1) a d k ∧ (p ≤ n → mv1 0 p a d k + d ≤ n + k) ∧ ((p < a ∨ a + d ≤ p) → mv1 (-1) (p + 1) a d k = mv1 0 p a d k + 1) := by
  unfold mv1
  refine ⟨?_, ?_, ?_, ?_, ?_, ?_⟩ <;> (repeat' split) <;> omega
def editL (b ins : List UInt8) (a d : Nat) : List UInt8 := b.take a ++ ins ++ b.drop (a + d)
theorem editL_len {b ins : List UInt8} {a d : Nat} (h : a + d ≤ b.length) : (editL b ins a d).length = b.length + ins.length - d := by
  unfold editL; rw [List.length_append, List.length_append, List.length_take, List.length_drop]; omega
theorem editL_get {b ins : List UInt8} {a d p : Nat} (h : a + d ≤ b.length) (hp : p < b.length) (hout : p < a ∨ a + d ≤ p) : (editL b ins a d)[(mv1 0 p a d ins.length).toNat]? = b[p]? := by
  unfold editL mv1
  rcases hout with h1 | h1
  · rw [if_neg (by omega), if_neg (by omega), List.append_assoc, List.getElem?_append_left (by rw [List.length_take]; omega), List.getElem?_take]
    rw [if_pos (by omega)]; congr 1
  · have e1 : (if (a : Int) + d < p then (p : Int) + (ins.length - d) else if (a : Int) ≤ p then (if (0 : Int) ≤ 0 then (a : Int) + ins.length else a) else p) = ((p - d + ins.length : Nat) : Int) := by
      split
      · omega
      · rw [if_pos (by omega), if_pos (by omega)]; omega
    rw [e1, Int.toNat_natCast, List.getElem?_append_right (by rw [List.length_append, List.length_take]; omega), List.getElem?_drop, List.length_append, List.length_take]
    congr 1; omega
end Go.Proofs.Ythhbnodnpajljaa
