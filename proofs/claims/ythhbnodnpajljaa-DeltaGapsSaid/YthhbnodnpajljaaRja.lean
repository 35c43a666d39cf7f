/-
  Ranges, plainly: where leaves begin, the bytes of the hunks. No conditions.
-/
import Derived.Test.YthhbnodnpajljaaRgb
import Derived.Test.YthhbnodnpajljaaVxj
set_option linter.unusedVariables false
set_option linter.unusedSimpArgs false
namespace Go.Proofs.Ythhbnodnpajljaa
open Go Go.RowKit Go.Vx

/-! ### the hunks' bounds -/
def hkG (M : Nat) (h : Hk) : Prop := 0 ≤ h.into ∧ h.into ≤ h.upto ∧ h.upto ≤ M
theorem hadd_all {M : Nat} {s : HS} {to up : Int} (h : ∀ x ∈ s.2.2, hkG M x) (h0 : 0 ≤ s.2.1) (h1 : s.2.1 ≤ up) (h2 : up ≤ M) : ∀ x ∈ (hadd s to up).2.2, hkG M x := by
  intro x hx
  unfold hadd at hx
  simp only at hx
  split at hx
  · rcases List.mem_append.1 hx with hx | hx
    · exact h x hx
    · simp at hx; subst hx; exact ⟨h0, h1, h2⟩
  · exact h x hx
theorem hgo_all (l m : List Int) : ∀ n, n ≤ l.length → ∀ x ∈ (hgo l m n).2.2, hkG m.length x
  | 0, _ => by simp [hgo]
  | n + 1, h => by
    have ih := hgo_all l m n (by omega)
    have hb := hgo_bd l m n (by omega)
    rw [hgo_succ]
    unfold hstep
    cases hl : l[n]? with
    | none => exact ih
    | some k =>
      simp only
      cases h1 : onceN l k with
      | none => exact ih
      | some i =>
        cases h2 : onceN m k with
        | none => exact ih
        | some j =>
          simp only
          have hj := onceN_lt h2
          split
          · rename_i h3
            exact hadd_all ih hb.2.1.1 h3 (by omega)
          · exact ih
theorem hunks_all (l m : List Int) : ∀ x ∈ hunks l m, hkG m.length x := by
  have hb := hgo_bd l m l.length (Nat.le_refl _)
  exact hadd_all (hgo_all l m l.length (Nat.le_refl _)) hb.2.1.1 hb.2.1.2 (Int.le_refl _)

/-! ### where the leaves begin -/
mutual
theorem rl_kind : ∀ {t x : T}, x ∈ rl t → x.kind = 1
  | .mk b ka kc id kind n lf kids, x, h => by
    simp only [rl] at h
    split at h
    · rename_i hk; simp at h; subst h; exact hk
    · exact rlL_kind h
theorem rlL_kind : ∀ {l : List T} {x : T}, x ∈ rlL l → x.kind = 1
  | [], x, h => by simp [rlL] at h
  | t :: r, x, h => by
    simp only [rlL, List.mem_append] at h
    exact h.elim rl_kind rlL_kind
end
mutual
theorem rl_wd : ∀ t : T, wdL (rl t) = wd t
  | .mk b ka kc id kind n lf kids => by
    by_cases hk : kind = 1
    · rw [rl_leaf (t := .mk b ka kc id kind n lf kids) hk]; simp [wdL]
    · rw [rl_node (t := .mk b ka kc id kind n lf kids) hk, wd_inner (t := .mk b ka kc id kind n lf kids) hk]; exact rlL_wd kids
theorem rlL_wd : ∀ l : List T, wdL (rlL l) = wdL l
  | [] => rfl
  | t :: r => by simp only [rlL, wdL, wdL_append, rl_wd t, rlL_wd r]
end
def posL : Int → List T → List (Int × T)
  | _, [] => []
  | a, t :: r => (a, t) :: posL (a + wd t) r
theorem posL_app (a : Int) : ∀ l r : List T, posL a (l ++ r) = posL a l ++ posL (a + wdL l) r := by
  intro l
  induction l generalizing a with
  | nil => intro r; simp [posL, wdL]
  | cons t l ih => intro r; simp only [List.cons_append, posL, wdL, ih, Int.add_assoc]
theorem posL_get {a : Int} : ∀ {l : List T} {i : Nat} {u : T}, l[i]? = some u → (posL a l)[i]? = some (a + wdL (l.take i), u) := by
  intro l
  induction l generalizing a with
  | nil => intro i u h; simp at h
  | cons t l ih =>
    intro i u h
    cases i with
    | zero => simp at h; subst h; simp [posL, wdL]
    | succ i =>
      simp only [List.getElem?_cons_succ] at h
      simp only [posL, List.getElem?_cons_succ, ih h, List.take_succ_cons, wdL, Int.add_assoc]
mutual
theorem walk_pos : ∀ (t : T) (a : Int), WF t → (walkT a t).filter isLeaf = posL a (rl t)
  | .mk b ka kc id kind n lf kids, a, hw => by
    by_cases hk : kind = 1
    · obtain ⟨h1, _⟩ := WF.leaf (t := .mk b ka kc id kind n lf kids) hw hk
      simp only [T.kids] at h1
      subst h1
      rw [rl_leaf (t := .mk b ka kc id kind n lf []) hk]
      simp [walkT, walkL, posL, isLeaf, T.kind, hk]
    · rw [rl_node (t := .mk b ka kc id kind n lf kids) hk]
      simp only [walkT, T.kids]
      rw [List.filter_cons_of_neg (by simp [isLeaf, T.kind, hk]), if_neg hk]
      exact walk_posL kids a hw.kids
theorem walk_posL : ∀ (l : List T) (a : Int), WFL l → (walkL a l).filter isLeaf = posL a (rlL l)
  | [], _, _ => rfl
  | t :: r, a, hw => by simp only [walkL, List.filter_append, rlL, posL_app, walk_pos t a hw.1, walk_posL r (a + wd t) hw.2, rl_wd]
end
theorem leafI_pos {t : T} (h : WF t) : leafI t = posL 0 (rl t) := walk_pos t 0 h
theorem posL_len (a : Int) : ∀ l : List T, (posL a l).length = l.length := by
  intro l
  induction l generalizing a with
  | nil => rfl
  | cons t l ih => simp [posL, ih]
theorem leafI_len2 {t : T} (h : WF t) : (leafI t).length = (rl t).length := by rw [leafI_pos h, posL_len]
theorem spot_at {t : T} (h : WF t) {i : Nat} {u : T} (hu : (rl t)[i]? = some u) : (spL (leafI t))[i]? = some ⟨(i : Nat), wdL ((rl t).take i), wdL ((rl t).take (i + 1))⟩ := by
  have h1 := posL_get (a := 0) hu
  rw [Int.zero_add] at h1
  rw [leafI_pos h]
  unfold spL
  simp [List.getElem?_map, List.getElem?_zipIdx, h1, wdL_succ hu]
theorem wdL_skel (t u : T) (h : skel t = skel u) (i : Nat) : wdL ((rl t).take i) = wdL ((rl u).take i) := by
  have h1 : (rl t).map skel = (rl u).map skel := by rw [← skel_rl, h, skel_rl]
  rw [← skel_wdL, ← skel_wdL ((rl u).take i), skelL_map, skelL_map, List.map_take, List.map_take, h1]

/-! ### spans -/
structure Sn where
  frm : Int
  to : Int
def snCs (s : Sn) : List Value := [.int .i64 s.frm, .int .i64 s.to]
def snC (l : List Sn) : List Value := l.flatMap snCs
def Sn.v (s : Sn) : Value := .agg #[.int .i64 s.frm, .int .i64 s.to]
def encS (s : Sn) : Array Value := #[s.v]
theorem snC_snoc (l : List Sn) (s : Sn) : snC (l ++ [s]) = snC l ++ [.int .i64 s.frm, .int .i64 s.to] := by simp [snC, snCs]
def spanH (m : List T) (h : Hk) : Sn := ⟨wdL (m.take h.into.toNat), wdL (m.take h.upto.toNat)⟩
def spanB (m : List T) (h : Hk) : Bool := decide ((spanH m h).frm < (spanH m h).to)
def spans (m : List T) (H : List Hk) : List Sn := (H.filter (spanB m)).map (spanH m)
theorem spans_len (m : List T) (H : List Hk) : (spans m H).length ≤ H.length := by unfold spans; rw [List.length_map]; exact List.length_filter_le _ _
theorem spans_yes {m : List T} {H : List Hk} {k : Nat} {h : Hk} (hh : H[k]? = some h) (hb : (spanH m h).frm < (spanH m h).to) : spans m (H.take (k + 1)) = spans m (H.take k) ++ [spanH m h] := by
  rw [take_succ' hh]; unfold spans
  rw [List.filter_append, List.map_append]
  congr 1
  simp [spanB, hb]
theorem spans_no {m : List T} {H : List Hk} {k : Nat} {h : Hk} (hh : H[k]? = some h) (hb : ¬ (spanH m h).frm < (spanH m h).to) : spans m (H.take (k + 1)) = spans m (H.take k) := by
  rw [take_succ' hh]; unfold spans
  rw [List.filter_append, List.map_append]
  simp [spanB, hb]
theorem spans_pre {m : List T} {H : List Hk} (k : Nat) : spans m (H.take k) <+: spans m H := by
  refine ⟨spans m (H.drop k), ?_⟩
  unfold spans
  rw [← List.map_append, ← List.filter_append, List.take_append_drop]
theorem spans_skel (t u : T) (h : skel t = skel u) (H : List Hk) : spans (rl t) H = spans (rl u) H := by
  have h1 : spanH (rl t) = spanH (rl u) := funext fun x => by unfold spanH; rw [wdL_skel t u h, wdL_skel t u h]
  have h2 : spanB (rl t) = spanB (rl u) := funext fun x => by unfold spanB; rw [h1]
  unfold spans; rw [h1, h2]
theorem span_eq {m : List T} {h : Hk} (he : h.into = h.upto) : ¬ (spanH m h).frm < (spanH m h).to := by unfold spanH; rw [he]; exact Int.lt_irrefl _
theorem wdL_take_le (l : List T) (i : Nat) : 0 ≤ wdL (l.take i) ∧ wdL (l.take i) ≤ wdL l := by
  have h1 := (wdL_bd (l.take i)).1
  have h2 : wdL l = wdL (l.take i) + wdL (l.drop i) := by rw [← wdL_append, List.take_append_drop]
  have h3 := (wdL_bd (l.drop i)).1
  omega
/-- a list of numbers: where each of the first n leaves begins -/
def bgC (m : List T) (n : Nat) : List Value := (List.range n).map fun j => .int .i64 (wdL (m.take j))
theorem bgC_succ (m : List T) (n : Nat) : bgC m (n + 1) = bgC m n ++ [.int .i64 (wdL (m.take n))] := by simp [bgC, List.range_succ]
theorem bgC_get (m : List T) {n j : Nat} (h : j < n) : (bgC m n)[j]? = some (.int .i64 (wdL (m.take j))) := by simp [bgC, List.getElem?_map, List.getElem?_range h]
theorem Own.at1 {w : World} {e : TypeId} {g n cap j : Nat} {xs : List Value} {v : Value} (h : Vx.Own w e 1 (.slice (some ⟨g, 0, none⟩) n cap) n xs) (hj : xs[j]? = some v) : w.cell? ⟨g, j, none⟩ = some v :=
  (h.cells (o := j) (vs := [v]) (by intro i u hi; cases i with | zero => (simp at hi; subst hi; simpa using hj) | succ i => simp at hi)).1
theorem lfw_leaf {t : T} (h : t.kind = 1) : lfw t.lf = wd t := (wd_leaf h).symm
end Go.Proofs.Ythhbnodnpajljaa
