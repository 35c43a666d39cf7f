/-
  The kinds of arguments of the laws of Delta, read plainly. No conditions.
-/
import Derived.Test.YthhbnodnpajljaaRda
import Derived.Test.YthhbnodnpajljaaDeb
import Derived.Test.YthhbnodnpajljaaRows
set_option linter.unusedVariables false
set_option linter.unusedSimpArgs false
set_option maxRecDepth 100000
namespace Go.Proofs.Ythhbnodnpajljaa
open Go Go.RowKit Go.Vx

theorem reach_is : reachBytes = 140737488351232 := by decide
theorem wf64 {i : Int} (h : (Lit.int .i64 i).wf = true) : -9223372036854775808 ≤ i ∧ i ≤ 9223372036854775807 := by
  simp only [Lit.wf, Bool.and_eq_true, decide_eq_true_eq] at h
  have e1 : IntKind.min .i64 = -9223372036854775808 := by decide
  have e2 : IntKind.max .i64 = 9223372036854775807 := by decide
  rw [e1, e2] at h; exact h
theorem wf8 {i : Int} (h : (Lit.int .u8 i).wf = true) : 0 ≤ i ∧ i ≤ 255 := by
  simp only [Lit.wf, Bool.and_eq_true, decide_eq_true_eq] at h
  have e1 : IntKind.min .u8 = 0 := by decide
  have e2 : IntKind.max .u8 = 255 := by decide
  rw [e1, e2] at h; exact h
theorem one_cell {cs : List Value} (h : cs.length = 1) : ∃ v, cs = [v] := by
  match cs, h with
  | [v], _ => exact ⟨v, rfl⟩
theorem flat_one {α β : Type} (f : α → β) (l : List α) : (l.flatMap fun x => [f x]) = l.map f := by
  induction l with
  | nil => rfl
  | cons x l ih => simp only [List.flatMap_cons, List.map_cons, ih]; rfl
def R64 (i : Int) : Prop := -9223372036854775808 ≤ i ∧ i ≤ 9223372036854775807
section
variable {w : World} {n : Nat} {cs : List Value}
theorem rd_int {m : Nat} (h : Rdv Try.prog w m 3 cs) : ∃ i : Int, cs = [.int .i64 i] ∧ R64 i := by
  obtain ⟨i, h1, h2⟩ := h.int Try.underlying3
  exact ⟨i, h1, wf64 h2⟩
theorem rd_u8 {m : Nat} (h : Rdv Try.prog w m 5 cs) : ∃ b : UInt8, cs = [.int .u8 (b.toNat : Int)] := by
  obtain ⟨i, h1, h2⟩ := h.int Try.underlying5
  have h3 := wf8 h2
  refine ⟨UInt8.ofNat i.toNat, ?_⟩
  rw [h1]
  have : ((UInt8.ofNat i.toNat).toNat : Int) = i := by
    rw [UInt8.toNat_ofNat']
    have : i.toNat % 256 = i.toNat := Nat.mod_eq_of_lt (by omega)
    omega
  rw [this]
/-- []int -/
theorem rd_ints {t : Nat} (hu : Try.prog.underlying t = some (.slice 3)) (h : Rdv Try.prog w n t cs) : ∃ A cap, ∃ l : List Int, cs = [.slice A l.length cap] ∧ (A = none → cap = 0) ∧ l.length ≤ cap ∧ cap ≤ maxLen ∧ cap * 8 ≤ 140737488351232 ∧ RowA w A (l.map fun i => .int .i64 i) ∧ ∀ x ∈ l, R64 x := by
  obtain ⟨A, cap, l, h1, h2, h3, h4, h5, h6, h7⟩ := h.slice (fun i : Int => [.int .i64 i]) R64 hu (by kernel_rfl) (by kernel_rfl) (B := 8) (k := 1) (fun _ => rfl) fun m cs' _ hr => rd_int hr
  rw [flat_one] at h6
  exact ⟨A, cap, l, h1, h2, h3, h4, reach_is ▸ h5, h6, h7⟩
/-- []byte -/
theorem rd_bytes {t : Nat} (hu : Try.prog.underlying t = some (.slice 5)) (h : Rdv Try.prog w n t cs) : ∃ A cap, ∃ l : List UInt8, cs = [.slice A l.length cap] ∧ (A = none → cap = 0) ∧ l.length ≤ cap ∧ cap ≤ maxLen ∧ cap ≤ 140737488351232 ∧ RowA w A (byC l) := by
  obtain ⟨A, cap, l, h1, h2, h3, h4, h5, h6, _⟩ := h.slice (fun b : UInt8 => [.int .u8 (b.toNat : Int)]) (fun _ => True) hu (by kernel_rfl) (by kernel_rfl) (B := 1) (k := 1) (fun _ => rfl) fun m cs' _ hr => by
    obtain ⟨b, hb⟩ := rd_u8 hr; exact ⟨b, hb, trivial⟩
  rw [flat_one] at h6
  have h7 : cap ≤ reachBytes := by rw [Nat.mul_one] at h5; exact h5
  exact ⟨A, cap, l, h1, h2, h3, h4, reach_is ▸ h7, h6⟩
/-- what an edit that is handed in keeps to -/
def EB.ok (w : World) (x : EB) : Prop := x.rd w ∧ x.e.n ≤ 140737488351232 ∧ R64 x.e.pl ∧ R64 x.e.del
theorem rd_edit {m : Nat} (hl : cs.length = 3) (h : Rdv Try.prog w m 59 cs) : ∃ x : EB, cs = x.e.cs ∧ x.ok w := by
  obtain ⟨m', _, h1⟩ := h.struct Try.underlying59
  match cs, hl with
  | [a, b, c], _ =>
    have p0 := h1 0 _ rfl
    have p1 := h1 1 _ rfl
    have p2 := h1 2 _ rfl
    obtain ⟨i, hi, ri⟩ := rd_int (cs := [a]) p0
    obtain ⟨j, hj, rj⟩ := rd_int (cs := [b]) p1
    obtain ⟨A, cap, l, hc, _, _, _, hb, hr⟩ := rd_bytes (cs := [c]) Try.underlying57 p2
    cases hi; cases hj; cases hc
    exact ⟨⟨⟨i, j, A, l.length, cap⟩, l⟩, rfl, ⟨rfl, hr⟩, by show l.length ≤ _; omega, ri, rj⟩
/-- api.Edit by value -/
theorem rd_editv {m base : Nat} {v : Value} (ho : Value.okWide Try.prog w .any base 59 v) (h : Rdv Try.prog w m 59 v.cells.toList) : ∃ x : EB, v = .agg x.e.cs.toArray ∧ x.ok w := by
  have hu := Try.underlying59
  simp only [Value.okWide, hu] at ho
  obtain ⟨cs, rfl, hl, _⟩ := ho
  have hl3 : cs.toList.length = 3 := by rw [Array.length_toList, hl]; kernel_rfl
  obtain ⟨x, hx, hok⟩ := rd_edit hl3 (by simpa [Value.cells] using h)
  refine ⟨x, ?_, hok⟩
  rw [← hx]
theorem flat_EB (l : List EB) : (l.flatMap fun x => x.e.cs) = edC (l.map EB.e) := by simp [edC, List.flatMap_map]
/-- []api.Edit -/
theorem rd_edits {t : Nat} (hu : Try.prog.underlying t = some (.slice 59)) (h : Rdv Try.prog w n t cs) : ∃ A cap, ∃ l : List EB, cs = [.slice A l.length cap] ∧ (A = none → cap = 0) ∧ l.length ≤ cap ∧ cap ≤ maxLen ∧ cap * 40 ≤ 140737488351232 ∧ RowA w A (edC (l.map EB.e)) ∧ ∀ x ∈ l, x.ok w := by
  obtain ⟨A, cap, l, h1, h2, h3, h4, h5, h6, h7⟩ := h.slice (fun x : EB => x.e.cs) (EB.ok w) hu (by kernel_rfl) (by kernel_rfl) (B := 40) (k := 3) (fun _ => rfl) fun m cs' hl hr => rd_edit hl hr
  rw [flat_EB] at h6
  exact ⟨A, cap, l, h1, h2, h3, h4, reach_is ▸ h5, h6, h7⟩
end
end Go.Proofs.Ythhbnodnpajljaa
