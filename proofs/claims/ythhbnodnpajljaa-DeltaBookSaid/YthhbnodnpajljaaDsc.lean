/-
  Steps, and the script that makes one tree out of another's nodes, as data. No conditions.
-/
import Derived.Test.YthhbnodnpajljaaDy
import Derived.Test.YthhbnodnpajljaaDed
set_option linter.unusedVariables false
set_option linter.unusedSimpArgs false
namespace Go.Proofs.Ythhbnodnpajljaa
open Go Go.RowKit Go.Vx

structure OpD where
  d : Int
  id : Int
  kind : Int
  n : Int
  kids : Int
  lf : Lf
deriving DecidableEq
def OpD.cs (o : OpD) : List Value := [.int .i64 o.d, .int .i64 o.id, .int .i64 o.kind, .int .i64 o.n, .int .i64 o.kids, .int .i64 o.lf.kind, .int .i64 o.lf.skip, .int .i64 o.lf.len, .int .i64 o.lf.reach]
def opC (l : List OpD) : List Value := l.flatMap OpD.cs
theorem opC_snoc (l : List OpD) (o : OpD) : opC (l ++ [o]) = opC l ++ o.cs := by simp [opC]
def keepO (id : Int) : OpD := ⟨1, id, 0, 0, 0, lf0⟩
def leafO (l : Lf) : OpD := ⟨2, 0, 0, 0, 0, l⟩
def makeO (kind n kids : Int) : OpD := ⟨3, 0, kind, n, kids, lf0⟩
mutual
def script (has : Int → Bool) : T → List OpD
  | .mk b ka kc id kind n lf kids => if has id then [keepO id] else if kind = 1 then [leafO lf] else scriptL has kids ++ [makeO kind n kids.length]
def scriptL (has : Int → Bool) : List T → List OpD
  | [] => []
  | t :: r => script has t ++ scriptL has r
end
theorem script_has {has : Int → Bool} {t : T} (h : has t.id = true) : script has t = [keepO t.id] := by cases t; simp only [T.id] at h ⊢; simp [script, h]
theorem script_leaf {has : Int → Bool} {t : T} (h : has t.id = false) (hk : t.kind = 1) : script has t = [leafO t.lf] := by cases t; simp only [T.id, T.kind, T.lf] at *; simp [script, h, hk]
def scIn (has : Int → Bool) (t : T) (j : Nat) : List OpD := scriptL has (t.kids.drop j) ++ [makeO t.kind t.n t.kids.length]
theorem script_node {has : Int → Bool} {t : T} (h : has t.id = false) (hk : t.kind ≠ 1) : script has t = scIn has t 0 := by cases t; simp only [T.id, T.kind] at *; simp [script, h, hk, scIn, T.kids, T.kind, T.n]
def scFrom (has : Int → Bool) (p : T × Nat) : List OpD := if p.2 = 0 then script has p.1 else scIn has p.1 p.2
theorem scIn_kid {has : Int → Bool} {t u : T} {j : Nat} (h : t.kids[j]? = some u) : scIn has t j = script has u ++ scFrom has (t, j + 1) := by
  unfold scIn scFrom
  rw [drop_get h, if_neg (by simp)]
  simp [scriptL, scIn]
theorem scIn_end {has : Int → Bool} {t : T} {j : Nat} (h : t.kids.length ≤ j) : scIn has t j = [makeO t.kind t.n t.kids.length] := by
  unfold scIn; rw [List.drop_eq_nil_of_le h]; rfl
/-- what is still to come, of a stack (the top first) -/
def scR (has : Int → Bool) : List (T × Nat) → List OpD
  | [] => []
  | p :: r => scFrom has p ++ scR has r
def stC (st : List (T × Nat)) : List Value := st.reverse.flatMap fun p => [p.1.ptr, .int .i64 (p.2 : Nat)]
theorem stC_cons (p : T × Nat) (st : List (T × Nat)) : stC (p :: st) = stC st ++ [p.1.ptr, .int .i64 (p.2 : Nat)] := by simp [stC]
theorem stC_len (st : List (T × Nat)) : (stC st).length = st.length * 2 := by
  induction st with
  | nil => rfl
  | cons p st ih => rw [stC_cons, List.length_append, ih]; simp; omega
/-- the steps that a stack may still take -/
def scM : List (T × Nat) → Int
  | [] => 0
  | p :: r => 1 + 2 * szL (p.1.kids.drop p.2) + scM r
theorem scM_nonneg : ∀ st : List (T × Nat), 0 ≤ scM st ∧ (st.length : Int) ≤ scM st
  | [] => by simp [scM]
  | p :: r => by have := szL_nonneg (p.1.kids.drop p.2); have := scM_nonneg r; simp only [scM, List.length_cons]; omega
theorem scM_push {x u : T} {j : Nat} {st : List (T × Nat)} (h : x.kids[j]? = some u) : scM ((u, 0) :: (x, j + 1) :: st) + 1 = scM ((x, j) :: st) := by
  have h1 := sz_kids u
  simp only [scM]
  rw [drop_get h]
  simp only [szL, List.drop_zero]
  omega
theorem setL_top (st : List (T × Nat)) (x : T) (j j' : Nat) : setL (stC ((x, j) :: st)) (st.length * 2 + 1) [.int .i64 (j' : Nat)] = stC ((x, j') :: st) := by
  simp only [setL, stC_cons]
  rw [← stC_len st, List.set_append_right _ _ (by omega)]
  simp
mutual
theorem script_len (has : Int → Bool) : ∀ t : T, ((script has t).length : Int) ≤ sz t
  | .mk b ka kc id kind n lf kids => by
    have h1 := scriptL_len has kids; have h2 := szL_nonneg kids
    simp only [script, sz]
    split
    · simp; omega
    · split
      · simp; omega
      · simp; omega
theorem scriptL_len (has : Int → Bool) : ∀ l : List T, ((scriptL has l).length : Int) ≤ szL l
  | [] => by simp [scriptL, szL]
  | t :: r => by have := script_len has t; have := scriptL_len has r; simp only [scriptL, szL, List.length_append]; omega
end
end Go.Proofs.Ythhbnodnpajljaa
