/-
  More kinds of arguments, read plainly: parts, pairs, steps. No conditions.
-/
import Derived.Test.YthhbnodnpajljaaRdb
import Derived.Test.YthhbnodnpajljaaRgb
import Derived.Test.YthhbnodnpajljaaDsc
set_option linter.unusedVariables false
set_option linter.unusedSimpArgs false
set_option maxRecDepth 100000
namespace Go.Proofs.Ythhbnodnpajljaa
open Go Go.RowKit Go.Vx

section
variable {w : World} {n : Nat} {cs : List Value}
def lfC (l : Lf) : List Value := [.int .i64 l.kind, .int .i64 l.skip, .int .i64 l.len, .int .i64 l.reach]
theorem rd_lf {m : Nat} (hl : cs.length = 4) (h : Rdv Try.prog w m 84 cs) : ∃ l : Lf, cs = lfC l := by
  obtain ⟨m', _, h1⟩ := h.struct Try.underlying84
  match cs, hl with
  | [a, b, c, d], _ =>
    obtain ⟨i, hi, _⟩ := rd_int (cs := [a]) (h1 0 _ rfl)
    obtain ⟨j, hj, _⟩ := rd_int (cs := [b]) (h1 1 _ rfl)
    obtain ⟨k, hk, _⟩ := rd_int (cs := [c]) (h1 2 _ rfl)
    obtain ⟨q, hq, _⟩ := rd_int (cs := [d]) (h1 3 _ rfl)
    cases hi; cases hj; cases hk; cases hq
    exact ⟨⟨i, j, k, q⟩, rfl⟩
theorem rd_part {m : Nat} (hl : cs.length = 7) (h : Rdv Try.prog w m 100 cs) : ∃ x : PB, cs = x.cs ∧ x.ok w := by
  obtain ⟨m', _, h1⟩ := h.struct Try.underlying100
  match cs, hl with
  | [a, b, c, d, e, f, g], _ =>
    obtain ⟨i, hi, _⟩ := rd_int (cs := [a]) (h1 0 _ rfl)
    obtain ⟨j, hj, _⟩ := rd_int (cs := [b]) (h1 1 _ rfl)
    obtain ⟨l, hl⟩ := rd_lf (cs := [c, d, e, f]) rfl (h1 2 _ rfl)
    obtain ⟨A, cap, ks, hk, _, hlc, _, hb, hr, _⟩ := rd_ints (cs := [g]) Try.underlying42 (h1 3 _ rfl)
    cases hi; cases hj; cases hl; cases hk
    exact ⟨⟨i, j, l, A, cap, ks⟩, rfl, hr, by show ks.length * 8 ≤ _; omega⟩
theorem rd_parts {t : Nat} (hu : Try.prog.underlying t = some (.slice 100)) (h : Rdv Try.prog w n t cs) : ∃ A cap, ∃ l : List PB, cs = [.slice A l.length cap] ∧ (A = none → cap = 0) ∧ l.length ≤ cap ∧ cap ≤ maxLen ∧ cap * 72 ≤ 140737488351232 ∧ RowA w A (pbC l) ∧ ∀ x ∈ l, x.ok w := by
  obtain ⟨A, cap, l, h1, h2, h3, h4, h5, h6, h7⟩ := h.slice PB.cs (PB.ok w) hu (by kernel_rfl) (by kernel_rfl) (B := 72) (k := 7) (fun _ => rfl) fun m cs' hl hr => rd_part hl hr
  exact ⟨A, cap, l, h1, h2, h3, h4, reach_is ▸ h5, h6, h7⟩
theorem rd_pair {m : Nat} (hl : cs.length = 2) (h : Rdv Try.prog w m 33 cs) : ∃ p : Int × Int, cs = prCs p ∧ (R64 p.1 ∧ R64 p.2) := by
  obtain ⟨m', _, h1⟩ := h.array Try.underlying33
  match cs, hl with
  | [a, b], _ =>
    obtain ⟨i, hi, ri⟩ := rd_int (cs := [a]) (h1 0 (by decide))
    obtain ⟨j, hj, rj⟩ := rd_int (cs := [b]) (h1 1 (by decide))
    cases hi; cases hj
    exact ⟨(i, j), rfl, ri, rj⟩
theorem rd_pairs {t : Nat} (hu : Try.prog.underlying t = some (.slice 33)) (h : Rdv Try.prog w n t cs) : ∃ A cap, ∃ l : List (Int × Int), cs = [.slice A l.length cap] ∧ (A = none → cap = 0) ∧ l.length ≤ cap ∧ cap ≤ maxLen ∧ cap * 16 ≤ 140737488351232 ∧ RowA w A (prC l) ∧ ∀ x ∈ l, R64 x.1 ∧ R64 x.2 := by
  obtain ⟨A, cap, l, h1, h2, h3, h4, h5, h6, h7⟩ := h.slice prCs (fun p : Int × Int => R64 p.1 ∧ R64 p.2) hu (by kernel_rfl) (by kernel_rfl) (B := 16) (k := 2) (fun _ => rfl) fun m cs' hl hr => rd_pair hl hr
  exact ⟨A, cap, l, h1, h2, h3, h4, reach_is ▸ h5, h6, h7⟩
def OpD.ok (x : OpD) : Prop := R64 x.d ∧ R64 x.id ∧ R64 x.kind ∧ R64 x.n ∧ R64 x.kids
theorem rd_op {m : Nat} (hl : cs.length = 9) (h : Rdv Try.prog w m 88 cs) : ∃ x : OpD, cs = x.cs ∧ x.ok := by
  obtain ⟨m', _, h1⟩ := h.struct Try.underlying88
  match cs, hl with
  | [a, b, c, d, e, f, g, k, q], _ =>
    obtain ⟨i1, e1, r1⟩ := rd_int (cs := [a]) (h1 0 _ rfl)
    obtain ⟨i2, e2, r2⟩ := rd_int (cs := [b]) (h1 1 _ rfl)
    obtain ⟨i3, e3, r3⟩ := rd_int (cs := [c]) (h1 2 _ rfl)
    obtain ⟨i4, e4, r4⟩ := rd_int (cs := [d]) (h1 3 _ rfl)
    obtain ⟨i5, e5, r5⟩ := rd_int (cs := [e]) (h1 4 _ rfl)
    obtain ⟨l, hl⟩ := rd_lf (cs := [f, g, k, q]) rfl (h1 5 _ rfl)
    cases e1; cases e2; cases e3; cases e4; cases e5; cases hl
    exact ⟨⟨i1, i2, i3, i4, i5, l⟩, rfl, r1, r2, r3, r4, r5⟩
theorem rd_ops {t : Nat} (hu : Try.prog.underlying t = some (.slice 88)) (h : Rdv Try.prog w n t cs) : ∃ A cap, ∃ l : List OpD, cs = [.slice A l.length cap] ∧ (A = none → cap = 0) ∧ l.length ≤ cap ∧ cap ≤ maxLen ∧ cap * 72 ≤ 140737488351232 ∧ RowA w A (opC l) ∧ ∀ x ∈ l, x.ok := by
  obtain ⟨A, cap, l, h1, h2, h3, h4, h5, h6, h7⟩ := h.slice OpD.cs OpD.ok hu (by kernel_rfl) (by kernel_rfl) (B := 72) (k := 9) (fun _ => rfl) fun m cs' hl hr => rd_op hl hr
  exact ⟨A, cap, l, h1, h2, h3, h4, reach_is ▸ h5, h6, h7⟩
end
end Go.Proofs.Ythhbnodnpajljaa
