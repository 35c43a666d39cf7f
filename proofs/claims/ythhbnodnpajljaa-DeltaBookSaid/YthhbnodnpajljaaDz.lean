/-
  delta.spots, as data: which leaves stand just once; the states of its range. No conditions.
-/
import Derived.Test.YthhbnodnpajljaaDy
set_option linter.unusedVariables false
set_option linter.unusedSimpArgs false
namespace Go.Proofs.Ythhbnodnpajljaa
open Go Go.RowKit Go.Vx

mutual
theorem walkT_len : ∀ (t : T) (a : Int), ((walkT a t).length : Int) = sz t
  | .mk b ka kc id kind n lf kids, a => by have := walkL_len kids (if kind = 1 then a + lfw lf else a); simp only [walkT, sz, List.length_cons]; omega
theorem walkL_len : ∀ (l : List T) (a : Int), ((walkL a l).length : Int) = szL l
  | [], a => by simp [walkL, szL]
  | t :: r, a => by have := walkT_len t a; have := walkL_len r (a + wd t); simp only [walkL, szL, List.length_append]; omega
end
theorem leafI_len (t : T) : ((leafI t).length : Int) ≤ sz t := by
  have h1 := walkT_len t 0
  have h2 : (leafI t).length ≤ (walkT 0 t).length := List.length_filter_le _ _
  omega
/-- the place of what stands just once -/
def onceN (l : List Int) (k : Int) : Option Nat := if l.count k = 1 then some (l.idxOf k) else none
theorem onceN_snoc (l : List Int) (k k' : Int) : onceN (l ++ [k]) k' = if k' = k then (if l.count k = 0 then some l.length else none) else onceN l k' := by
  unfold onceN
  by_cases h : k' = k
  · subst h
    rw [if_pos rfl]
    by_cases h0 : l.count k' = 0
    · have hn : k' ∉ l := List.count_eq_zero.1 h0
      rw [if_pos h0, if_pos (by simp [List.count_append, h0]), List.idxOf_append]
      simp [hn]
    · rw [if_neg h0, if_neg (by simp [List.count_append]; omega)]
  · rw [if_neg h]
    have h1 : (l ++ [k]).count k' = l.count k' := by simp [List.count_append, List.count_singleton, Ne.symm h]
    rw [h1]
    by_cases h2 : l.count k' = 1
    · have hm : k' ∈ l := List.count_pos_iff.1 (by omega)
      rw [if_pos h2, if_pos h2, List.idxOf_append]; simp [hm]
    · rw [if_neg h2, if_neg h2]
theorem onceN_lt {l : List Int} {k : Int} {i : Nat} (h : onceN l k = some i) : i < l.length := by
  unfold onceN at h
  split at h
  · rename_i hc
    simp only [Option.some.injEq] at h; subst h
    exact List.idxOf_lt_length_of_mem (List.count_pos_iff.1 (by omega))
  · cases h
def ids (l : List (Int × T)) : List Int := l.map fun p => p.2.id
structure Sp where
  n : Int
  frm : Int
  to : Int
def Sp.v (s : Sp) : Value := .agg #[.int .i64 s.n, .int .i64 s.frm, .int .i64 s.to]
def spL (l : List (Int × T)) : List Sp := l.zipIdx.map fun p => ⟨p.2, p.1.1, p.1.1 + wd p.1.2⟩
def spC (l : List Sp) : List Value := l.flatMap fun s => [.int .i64 s.n, .int .i64 s.frm, .int .i64 s.to]
theorem spL_snoc (l : List (Int × T)) (p : Int × T) : spL (l ++ [p]) = spL l ++ [⟨l.length, p.1, p.1 + wd p.2⟩] := by simp [spL, List.zipIdx_append]
theorem spL_len (l : List (Int × T)) : (spL l).length = l.length := by simp [spL]
theorem spC_snoc (l : List Sp) (s : Sp) : spC (l ++ [s]) = spC l ++ [.int .i64 s.n, .int .i64 s.frm, .int .i64 s.to] := by simp [spC]
def sp0 : Sp := ⟨0, 0, 0⟩
def spAt (l : List (Int × T)) (i : Nat) : Sp := (spL l)[i]?.getD sp0
theorem spAt_snoc {l : List (Int × T)} {p : Int × T} {i : Nat} (h : i < l.length) : spAt (l ++ [p]) i = spAt l i := by
  unfold spAt; rw [spL_snoc, List.getElem?_append_left (by rw [spL_len]; exact h)]
theorem spAt_last (l : List (Int × T)) (p : Int × T) : spAt (l ++ [p]) l.length = ⟨l.length, p.1, p.1 + wd p.2⟩ := by
  unfold spAt; rw [spL_snoc, List.getElem?_append_right (by rw [spL_len]; exact Nat.le_refl _), spL_len]; simp
/-- the two maps, of what has been told -/
def SpM (l : List (Int × T)) (m1 m2 : List (Int × Value)) : Prop :=
  (∀ k, lookM m1 k = (onceN (ids l) k).map fun i => (spAt l i).v) ∧ (∀ k, (lookM m2 k).isSome = decide (2 ≤ (ids l).count k)) ∧ ∀ k v, lookM m2 k = some v → v = .agg #[]
theorem SpM.nil : SpM [] [] [] := ⟨fun k => by simp [lookM, onceN, ids], fun k => by simp [lookM, ids], fun k v h => by simp [lookM] at h⟩
theorem ids_snoc (l : List (Int × T)) (p : Int × T) : ids (l ++ [p]) = ids l ++ [p.2.id] := by simp [ids]
theorem ids_len (l : List (Int × T)) : (ids l).length = l.length := by simp [ids]
theorem once_map (l : List (Int × T)) (p : Int × T) (k : Int) : ((onceN (ids l) k).map fun i => (spAt (l ++ [p]) i).v) = (onceN (ids l) k).map fun i => (spAt l i).v := by
  cases h : onceN (ids l) k with
  | none => rfl
  | some i => simp only [Option.map_some]; rw [spAt_snoc (by have := onceN_lt h; rw [ids_len] at this; exact this)]
theorem count_snoc (l : List Int) (k k' : Int) : (l ++ [k]).count k' = l.count k' + (if k' = k then 1 else 0) := by
  rw [List.count_append, List.count_singleton]
  by_cases h : k' = k
  · subst h; simp
  · simp [h, Ne.symm h]
theorem SpM.again {l : List (Int × T)} {m1 m2 : List (Int × Value)} {p : Int × T} (h : SpM l m1 m2) (hn : (m1.map (·.1)).Nodup) (ha : (lookM m1 p.2.id).isSome = true) : SpM (l ++ [p]) (delM m1 p.2.id) (setM m2 p.2.id (.agg #[])) := by
  have hc : (ids l).count p.2.id = 1 := by
    rw [h.1, Option.isSome_map] at ha
    unfold onceN at ha; split at ha
    · assumption
    · cases ha
  refine ⟨?_, ?_, ?_⟩
  · intro k
    rw [lookM_delM hn, ids_snoc, onceN_snoc]
    by_cases hk : k = p.2.id
    · rw [if_pos hk, if_pos hk, if_neg (by omega)]; rfl
    · rw [if_neg hk, if_neg hk, once_map]; exact h.1 k
  · intro k
    rw [lookM_setM, ids_snoc, count_snoc]
    by_cases hk : k = p.2.id
    · subst hk; rw [if_pos rfl, if_pos rfl, hc]; rfl
    · rw [if_neg hk, if_neg hk]; exact h.2.1 k
  · intro k v hv
    rw [lookM_setM] at hv
    split at hv
    · cases hv; rfl
    · exact h.2.2 k v hv
theorem SpM.fresh {l : List (Int × T)} {m1 m2 : List (Int × Value)} {p : Int × T} (h : SpM l m1 m2) (ha : (lookM m1 p.2.id).isSome = false) (hb : (lookM m2 p.2.id).isSome = false) : SpM (l ++ [p]) (setM m1 p.2.id (Sp.v ⟨l.length, p.1, p.1 + wd p.2⟩)) m2 := by
  have hc : (ids l).count p.2.id = 0 := by
    rw [h.2.1] at hb
    have h1 : ¬ (ids l).count p.2.id = 1 := fun h1 => by rw [h.1, Option.isSome_map] at ha; unfold onceN at ha; rw [if_pos h1] at ha; cases ha
    simp at hb; omega
  refine ⟨?_, ?_, ?_⟩
  · intro k
    rw [lookM_setM, ids_snoc, onceN_snoc]
    by_cases hk : k = p.2.id
    · rw [if_pos hk, if_pos hk, if_pos hc, ids_len]; simp only [Option.map_some]; rw [spAt_last]
    · rw [if_neg hk, if_neg hk, once_map]; exact h.1 k
  · intro k
    rw [ids_snoc, count_snoc]
    by_cases hk : k = p.2.id
    · subst hk; rw [if_pos rfl, hc]; rw [h.2.1, hc]; rfl
    · rw [if_neg hk]; exact h.2.1 k
  · exact h.2.2
theorem SpM.more {l : List (Int × T)} {m1 m2 : List (Int × Value)} {p : Int × T} (h : SpM l m1 m2) (ha : (lookM m1 p.2.id).isSome = false) (hb : (lookM m2 p.2.id).isSome = true) : SpM (l ++ [p]) m1 m2 := by
  have hc : 2 ≤ (ids l).count p.2.id := by rw [h.2.1] at hb; simpa using hb
  refine ⟨?_, ?_, ?_⟩
  · intro k
    rw [ids_snoc, onceN_snoc]
    by_cases hk : k = p.2.id
    · subst hk
      rw [if_pos rfl, if_neg (by omega), h.1]; unfold onceN; rw [if_neg (by omega)]; rfl
    · rw [if_neg hk, once_map]; exact h.1 k
  · intro k
    rw [ids_snoc, count_snoc]
    by_cases hk : k = p.2.id
    · subst hk; rw [if_pos rfl, h.2.1, decide_eq_true hc, decide_eq_true (by omega)]
    · rw [if_neg hk]; exact h.2.1 k
  · exact h.2.2
theorem SpM.unit {l : List (Int × T)} {m1 m2 : List (Int × Value)} (h : SpM l m1 m2) (k : Int) : (lookM m2 k).getD (.agg #[]) = .agg #[] := by
  cases hu : lookM m2 k with
  | none => rfl
  | some u => exact h.2.2 k u hu
theorem SpM.cells {l : List (Int × T)} {m1 m2 : List (Int × Value)} (h : SpM l m1 m2) (k : Int) : ∃ a b c, (lookM m1 k).getD (.agg #[.int .i64 0, .int .i64 0, .int .i64 0]) = .agg #[.int .i64 a, .int .i64 b, .int .i64 c] ∧ (∀ i, onceN (ids l) k = some i → a = (spAt l i).n) := by
  rw [h.1]
  cases onceN (ids l) k with
  | none => exact ⟨0, 0, 0, rfl, fun i h => by cases h⟩
  | some i => exact ⟨_, _, _, rfl, fun j h => by cases h; rfl⟩
theorem spAt_n {l : List (Int × T)} {i : Nat} (h : i < l.length) : (spAt l i).n = i := by
  unfold spAt spL
  simp [List.getElem?_map, List.getElem?_zipIdx, List.getElem?_eq_getElem h]

/-- within spots' range -/
structure SpI (B : Nat) (w : World) (c1 c2 c3 c4 b1 b2 : Nat) (pre : List (Int × T)) (m1 m2 : List (Int × Value)) (A3 A4 : Option Addr) (p3 p4 : Nat) (Y : Nat → Prop) (W : World) : Prop where
  k1 : Blk W c1 #[.map (some b1)] 144
  k2 : Blk W c2 #[.map (some b2)] 155
  k3 : Blk W c3 #[.slice A3 pre.length p3] 105
  k4 : Blk W c4 #[.slice A4 pre.length p4] 42
  e1 : MapB encI W b1 m1
  e2 : MapB encI W b2 m2
  m : SpM pre m1 m2
  o3 : Vx.Own W 130 3 (.slice A3 pre.length p3) pre.length (spC (spL pre))
  o4 : Vx.Own W 3 1 (.slice A4 pre.length p4) pre.length ((ids pre).map fun i => .int .i64 i)
  ny : ((¬ Y c1 ∧ ¬ Y c2) ∧ ¬ Y c3 ∧ ¬ Y c4) ∧ ¬ Y b1 ∧ ¬ Y b2
  n3 : ∀ k, (Value.slice A3 pre.length p3).ownBlock = some k → ¬ Y k ∧ B ≤ k
  n4 : ∀ k, (Value.slice A4 pre.length p4).ownBlock = some k → ¬ Y k ∧ B ≤ k
  low : ((B ≤ c1 ∧ B ≤ c2) ∧ B ≤ c3 ∧ B ≤ c4) ∧ B ≤ b1 ∧ B ≤ b2
  chg : Chg (fun b => B ≤ b) w W
def spI (B : Nat) (w : World) (c1 c2 c3 c4 b1 b2 : Nat) (pre : List (Int × T)) (Y : Nat → Prop) (W : World) : Prop := ∃ m1 m2 A3 A4 p3 p4, SpI B w c1 c2 c3 c4 b1 b2 pre m1 m2 A3 A4 p3 p4 Y W
theorem spI_stab {B : Nat} {w : World} {c1 c2 c3 c4 b1 b2 : Nat} : Stab B (spI B w c1 c2 c3 c4 b1 b2) := by
  rintro pre Y W Y2 W2 hY ⟨m1, m2, A3, A4, p3, p4, h⟩ hc hY2
  have hn : ∀ b, b < W.heap.size → ¬ Y b → ¬ Y2 b := fun b hb hy h2 => (hY2 b h2).elim hy fun h3 => by omega
  exact ⟨m1, m2, A3, A4, p3, p4, h.k1.keep hc h.ny.1.1.1, h.k2.keep hc h.ny.1.1.2, h.k3.keep hc h.ny.1.2.1, h.k4.keep hc h.ny.1.2.2, h.e1.keep hc h.ny.2.1, h.e2.keep hc h.ny.2.2, h.m, h.o3.keep hc fun k hk => (h.n3 k hk).1, h.o4.keep hc fun k hk => (h.n4 k hk).1,
    ⟨⟨⟨hn _ h.k1.lt h.ny.1.1.1, hn _ h.k2.lt h.ny.1.1.2⟩, hn _ h.k3.lt h.ny.1.2.1, hn _ h.k4.lt h.ny.1.2.2⟩, hn _ h.e1.lt h.ny.2.1, hn _ h.e2.lt h.ny.2.2⟩, fun k hk => ⟨hn k (h.o3.lt k hk) (h.n3 k hk).1, (h.n3 k hk).2⟩, fun k hk => ⟨hn k (h.o4.lt k hk) (h.n4 k hk).1, (h.n4 k hk).2⟩,
    h.low, Chg.trans h.chg hc fun b hb _ => (hY b hb).1⟩
end Go.Proofs.Ythhbnodnpajljaa
