/-
  Pairs of places in a grove; lists of hunks, told twice. No conditions.
-/
import Derived.Test.YthhbnodnpajljaaRga
set_option linter.unusedVariables false
set_option linter.unusedSimpArgs false
namespace Go.Proofs.Ythhbnodnpajljaa
open Go Go.RowKit Go.Vx

def prCs (p : Int × Int) : List Value := [.int .i64 p.1, .int .i64 p.2]
def prC (l : List (Int × Int)) : List Value := l.flatMap prCs
theorem PB.ok.ext {w w' : World} {x : PB} (h : x.ok w) (c : Ext w w') : x.ok w' := ⟨h.1.ext c, h.2⟩
theorem mod_nat (x : Int) {n : Nat} (h : 0 < n) : ∃ q : Nat, x % ((n : Nat) : Int) = (q : Nat) := ⟨(x % ((n : Nat) : Int)).toNat, by have := Int.emod_nonneg x (show ((n : Nat) : Int) ≠ 0 by omega); omega⟩
theorem mod_lt {x : Int} {n q : Nat} (hq : x % ((n : Nat) : Int) = (q : Nat)) (h : 0 < n) : q < n := by have := Int.emod_lt_of_pos x (show (0 : Int) < ((n : Nat) : Int) by omega); omega
/-- a row of rows of k cells each: the i-th -/
theorem flat_get {α : Type} (f : α → List Value) (k : Nat) (hf : ∀ a, (f a).length = k) : ∀ {l : List α} {i : Nat} {e : α}, l[i]? = some e → ∀ j v, (f e)[j]? = some v → (l.flatMap f)[i * k + j]? = some v
  | [], _, _, h, _, _, _ => by simp at h
  | x :: l, 0, e, h, j, v, hj => by
    simp at h; subst h
    rw [List.flatMap_cons, Nat.zero_mul, Nat.zero_add, List.getElem?_append_left (List.getElem?_eq_some_iff.1 hj).1]
    exact hj
  | x :: l, i + 1, e, h, j, v, hj => by
    have ih := flat_get f k hf (l := l) (i := i) (e := e) (by simpa using h) j v hj
    rw [List.flatMap_cons, List.getElem?_append_right (by rw [hf, Nat.add_mul]; omega), hf]
    rw [show (i + 1) * k + j - k = i * k + j by rw [Nat.add_mul]; omega]
    exact ih
def hkCs (h : Hk) : List Value := [.int .i64 h.frm, .int .i64 h.to, .int .i64 h.into, .int .i64 h.upto]
theorem Own.hk {w : World} {g n cap : Nat} {H : List Hk} (h : Vx.Own w 40 4 (.slice (some ⟨g, 0, none⟩) n cap) n (hkC H)) {i : Nat} {e : Hk} (hi : H[i]? = some e) : CellsL w g (i * 4) (hkCs e) := h.cells (flat_get hkCs 4 (fun _ => rfl) hi)
theorem hunks_two {ta tb ua ub : T} (ha : WF ta) (hb : WF tb) (h1 : skel ta = skel ua) (h2 : skel tb = skel ub) : hunks (ids (leafI ta)) (ids (leafI tb)) = hunks ((rl ua).map T.id) ((rl ub).map T.id) := by rw [leafI_ids ha h1, leafI_ids hb h2]
theorem hunks_len (l m : List Int) : (hunks l m).length ≤ l.length + 1 := by
  have h1 := (hgo_bd l m l.length (Nat.le_refl _)).2.2
  have h2 := hadd_len (hgo l m l.length) l.length m.length
  unfold hunks; omega
end Go.Proofs.Ythhbnodnpajljaa
