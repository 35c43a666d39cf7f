/-
  Edits and where a place comes to stand, as data. No conditions.
-/
import Derived.Test.YthhbnodnpajljaaDu
import Derived.Test.YthhbnodnpajljaaVxi
set_option linter.unusedVariables false
set_option linter.unusedSimpArgs false
namespace Go.Proofs.Ythhbnodnpajljaa
open Go Go.RowKit Go.Vx

theorem cellsL_app {w : World} {g : Nat} : ∀ {a b : List Value} {o : Nat}, CellsL w g o (a ++ b) → CellsL w g o a ∧ CellsL w g (o + a.length) b
  | [], b, o, h => ⟨trivial, by simpa using h⟩
  | x :: a, b, o, h => by
    have := cellsL_app (a := a) (b := b) h.2
    exact ⟨⟨h.1, this.1⟩, by rw [List.length_cons, show o + (a.length + 1) = o + 1 + a.length by omega]; exact this.2⟩
theorem cellsL_flat {α : Type} {w : World} {g : Nat} (f : α → List Value) (k : Nat) (hf : ∀ a, (f a).length = k) : ∀ {l : List α} {o i : Nat} {e : α}, CellsL w g o (l.flatMap f) → l[i]? = some e → CellsL w g (o + i * k) (f e)
  | [], _, _, _, _, h => by simp at h
  | x :: l, o, 0, e, h, hi => by
    simp at hi; subst hi
    rw [List.flatMap_cons] at h
    simpa using (cellsL_app h).1
  | x :: l, o, i + 1, e, h, hi => by
    rw [List.flatMap_cons] at h
    have := cellsL_flat f k hf (cellsL_app h).2 (i := i) (e := e) (by simpa using hi)
    rw [hf] at this
    rw [show o + (i + 1) * k = o + k + i * k by rw [Nat.add_mul]; omega]
    exact this

/-- an edit, with the slice of its bytes -/
structure Ed where
  pl : Int
  del : Int
  A : Option Addr
  n : Nat
  c : Nat
def Ed.cs (e : Ed) : List Value := [.int .i64 e.pl, .int .i64 e.del, .slice e.A e.n e.c]
def edC (l : List Ed) : List Value := l.flatMap Ed.cs
theorem edC_nil {l : List Ed} (h : l ≠ []) : edC l ≠ [] := by cases l with | nil => exact absurd rfl h | cons e l => simp [edC, Ed.cs]
def big (n : Int) : Prop := n < 0 ∨ 262144 < n
instance (n : Int) : Decidable (big n) := by unfold big; infer_instance
def mv1 (bias p at_ del n : Int) : Int := if at_ + del < p then p + (n - del) else if at_ ≤ p then (if 0 ≤ bias then at_ + n else at_) else p
/-- at, del, len of the bytes -/
abbrev E3 := Int × Int × Int
def Ed.e3 (e : Ed) : E3 := (e.pl, e.del, e.n)
def mvGo (bias : Int) : Int → List E3 → Int × Int
  | p, [] => (p, 0)
  | p, e :: r => if big e.1 ∨ big e.2.1 ∨ 262144 < e.2.2 then (0, 1) else if big (mv1 bias p e.1 e.2.1 e.2.2) then (0, 151) else mvGo bias (mv1 bias p e.1 e.2.1 e.2.2) r
def move (p bias : Int) (l : List E3) : Int × Int := if big p then (0, 151) else if 4096 < l.length then (0, 2) else mvGo bias p l
theorem mvGo_bad {bias p : Int} {e : Ed} {r : List E3} (h : big e.pl ∨ big e.del ∨ (262144 : Int) < e.n) : mvGo bias p (e.e3 :: r) = (0, 1) := by
  unfold mvGo; exact if_pos h
theorem mvGo_far {bias p : Int} {e : Ed} {r : List E3} (h : ¬ (big e.pl ∨ big e.del ∨ (262144 : Int) < e.n)) (h2 : big (mv1 bias p e.pl e.del e.n)) : mvGo bias p (e.e3 :: r) = (0, 151) := by
  rw [mvGo]; exact (if_neg h).trans (if_pos h2)
theorem mvGo_on {bias p : Int} {e : Ed} {r : List E3} (h : ¬ (big e.pl ∨ big e.del ∨ (262144 : Int) < e.n)) (h2 : ¬ big (mv1 bias p e.pl e.del e.n)) : mvGo bias p (e.e3 :: r) = mvGo bias (mv1 bias p e.pl e.del e.n) r := by
  rw [mvGo]; exact (if_neg h).trans (if_neg h2)
theorem drop_get {α : Type} {l : List α} {i : Nat} {e : α} (h : l[i]? = some e) : l.drop i = e :: l.drop (i + 1) := by
  obtain ⟨h1, h2⟩ := List.getElem?_eq_some_iff.1 h
  rw [List.drop_eq_getElem_cons h1, h2]
end Go.Proofs.Ythhbnodnpajljaa
