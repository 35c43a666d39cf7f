/-
  The hunks between two rows of numbers, as data. No conditions.
-/
import Derived.Test.YthhbnodnpajljaaDz
set_option linter.unusedVariables false
set_option linter.unusedSimpArgs false
namespace Go.Proofs.Ythhbnodnpajljaa
open Go Go.RowKit Go.Vx

structure Hk where
  frm : Int
  to : Int
  into : Int
  upto : Int
deriving DecidableEq
def Hk.v (h : Hk) : Value := .agg #[.int .i64 h.frm, .int .i64 h.to, .int .i64 h.into, .int .i64 h.upto]
def hkC (l : List Hk) : List Value := l.flatMap fun h => [.int .i64 h.frm, .int .i64 h.to, .int .i64 h.into, .int .i64 h.upto]
theorem hkC_snoc (l : List Hk) (h : Hk) : hkC (l ++ [h]) = hkC l ++ [.int .i64 h.frm, .int .i64 h.to, .int .i64 h.into, .int .i64 h.upto] := by simp [hkC]
/-- from, into, what has been told -/
abbrev HS := Int × Int × List Hk
def hadd (s : HS) (to up : Int) : HS := (to + 1, up + 1, if s.1 < to ∨ s.2.1 < up then s.2.2 ++ [⟨s.1, to, s.2.1, up⟩] else s.2.2)
def hstep (l m : List Int) (s : HS) (i : Nat) : HS :=
  match l[i]? with
  | none => s
  | some k =>
    match onceN l k, onceN m k with
    | some _, some j => if s.2.1 ≤ j then hadd s i j else s
    | _, _ => s
def hgo (l m : List Int) (n : Nat) : HS := (List.range n).foldl (hstep l m) (0, 0, [])
theorem hgo_succ (l m : List Int) (n : Nat) : hgo l m (n + 1) = hstep l m (hgo l m n) n := by simp [hgo, List.range_succ]
def hunks (l m : List Int) : List Hk := (hadd (hgo l m l.length) l.length m.length).2.2
theorem hadd_len (s : HS) (to up : Int) : (hadd s to up).2.2.length ≤ s.2.2.length + 1 := by unfold hadd; simp only; split <;> simp
/-- bounds of the states -/
theorem hgo_bd (l m : List Int) : ∀ n, n ≤ l.length → (0 ≤ (hgo l m n).1 ∧ (hgo l m n).1 ≤ n) ∧ (0 ≤ (hgo l m n).2.1 ∧ (hgo l m n).2.1 ≤ m.length) ∧ (hgo l m n).2.2.length ≤ n
  | 0, _ => by simp [hgo]
  | n + 1, h => by
    have ih := hgo_bd l m n (by omega)
    rw [hgo_succ]
    unfold hstep
    cases hl : l[n]? with
    | none => simp only; omega
    | some k =>
      simp only
      cases h1 : onceN l k with
      | none => simp only; omega
      | some i =>
        cases h2 : onceN m k with
        | none => simp only; omega
        | some j =>
          simp only
          have hj := onceN_lt h2
          split
          · have := hadd_len (hgo l m n) n j
            simp only [hadd] at *
            refine ⟨by omega, by omega, by omega⟩
          · omega
theorem hstep_yes {la lb : List (Int × T)} {m1 m2 n1 n2 : List (Int × Value)} (h1 : SpM la m1 n1) (h2 : SpM lb m2 n2) {s : HS} {i : Nat} {k j : Int} (hk : (ids la)[i]? = some k) (ha : (lookM m1 k).isSome = true) (hb : (lookM m2 k).isSome = true)
    (hj : ∀ q, onceN (ids lb) k = some q → j = (spAt lb q).n) (hle : s.2.1 ≤ j) : hstep (ids la) (ids lb) s i = hadd s i j ∧ 0 ≤ j ∧ j < lb.length := by
  rw [h1.1, Option.isSome_map] at ha
  rw [h2.1, Option.isSome_map] at hb
  obtain ⟨a, ha⟩ := Option.isSome_iff_exists.1 ha
  obtain ⟨b, hb⟩ := Option.isSome_iff_exists.1 hb
  have hbl := onceN_lt hb
  rw [ids_len] at hbl
  have hjb := hj b hb
  rw [spAt_n hbl] at hjb
  subst hjb
  refine ⟨?_, by omega, by omega⟩
  unfold hstep
  simp only [hk, ha, hb]
  rw [if_pos hle]
theorem hstep_no {la lb : List (Int × T)} {m1 m2 n1 n2 : List (Int × Value)} (h1 : SpM la m1 n1) (h2 : SpM lb m2 n2) {s : HS} {i : Nat} {k j : Int} (hk : (ids la)[i]? = some k) (hj : ∀ q, onceN (ids lb) k = some q → j = (spAt lb q).n)
    (hn : (((lookM m1 k).isSome && (lookM m2 k).isSome) && decide (s.2.1 ≤ j)) = false) : hstep (ids la) (ids lb) s i = s := by
  rw [h1.1, h2.1, Option.isSome_map, Option.isSome_map] at hn
  unfold hstep
  simp only [hk]
  cases ha : onceN (ids la) k with
  | none => rfl
  | some a =>
    cases hb : onceN (ids lb) k with
    | none => rfl
    | some b =>
      have hbl := onceN_lt hb
      rw [ids_len] at hbl
      have hjb := hj b hb
      rw [spAt_n hbl] at hjb
      subst hjb
      simp only [ha, hb, Option.isSome_some, Bool.true_and, decide_eq_false_iff_not] at hn
      simp only
      rw [if_neg hn]
end Go.Proofs.Ythhbnodnpajljaa
