/-
  Looking for a node by its number; scripts, told twice. No conditions.
-/
import Derived.Test.YthhbnodnpajljaaRgb
import Derived.Test.YthhbnodnpajljaaDsc
set_option linter.unusedVariables false
set_option linter.unusedSimpArgs false
namespace Go.Proofs.Ythhbnodnpajljaa
open Go Go.RowKit Go.Vx

mutual
/-- the first node of that number, the upper ones first -/
def findT (k : Int) : T → Option T
  | .mk b ka kc id kind n lf kids => if id = k then some (.mk b ka kc id kind n lf kids) else findL k kids
def findL (k : Int) : List T → Option T
  | [] => none
  | t :: r => (findT k t).or (findL k r)
end
theorem findT_hit {k : Int} {t : T} (h : t.id = k) : findT k t = some t := by cases t; simp only [T.id] at h; simp [findT, h]
theorem findT_miss {k : Int} {t : T} (h : t.id ≠ k) : findT k t = findL k t.kids := by cases t; simp only [T.id] at h; simp [findT, h, T.kids]
theorem findL_app (k : Int) : ∀ a b : List T, findL k (a ++ b) = (findL k a).or (findL k b)
  | [], b => rfl
  | t :: a, b => by simp only [List.cons_append, findL, findL_app k a b, Option.or_assoc]
theorem findL_here {k : Int} {l : List T} {i : Nat} {u x : T} (h0 : findL k (l.take i) = none) (hu : l[i]? = some u) (hx : findT k u = some x) : findL k l = some x := by
  have h1 : l = l.take i ++ (u :: l.drop (i + 1)) := by rw [← drop_get hu, List.take_append_drop]
  rw [h1, findL_app, h0]
  simp [findL, hx]
theorem findL_next {k : Int} {l : List T} {i : Nat} {u : T} (h0 : findL k (l.take i) = none) (hu : l[i]? = some u) (hx : findT k u = none) : findL k (l.take (i + 1)) = none := by
  rw [take_succ' hu, findL_app, h0]; simp [findL, hx]
mutual
theorem findT_some {k : Int} : ∀ {t x : T}, findT k t = some x → x ∈ nodes t ∧ x.id = k
  | .mk b ka kc id kind n lf kids, x, h => by
    simp only [findT] at h
    split at h
    · cases h; rename_i hk; exact ⟨by simp [nodes], hk⟩
    · have := findL_some h; exact ⟨by simp [nodes, this.1], this.2⟩
theorem findL_some {k : Int} : ∀ {l : List T} {x : T}, findL k l = some x → x ∈ nodesL l ∧ x.id = k
  | [], x, h => by simp [findL] at h
  | t :: r, x, h => by
    simp only [findL] at h
    cases ht : findT k t with
    | some y => rw [ht] at h; simp at h; subst h; have := findT_some ht; exact ⟨by simp [nodesL, this.1], this.2⟩
    | none => rw [ht] at h; simp at h; have := findL_some h; exact ⟨by simp [nodesL, this.1], this.2⟩
end
mutual
theorem findT_none {k : Int} : ∀ {t : T}, findT k t = none → ∀ x ∈ nodes t, x.id ≠ k
  | .mk b ka kc id kind n lf kids, h, x, hx => by
    simp only [findT] at h
    split at h
    · cases h
    · rename_i hk
      simp only [nodes, List.mem_cons] at hx
      rcases hx with rfl | hx
      · exact hk
      · exact findL_none h x hx
theorem findL_none {k : Int} : ∀ {l : List T}, findL k l = none → ∀ x ∈ nodesL l, x.id ≠ k
  | [], _, x, hx => by simp [nodesL] at hx
  | t :: r, h, x, hx => by
    simp only [findL] at h
    cases ht : findT k t with
    | some y => rw [ht] at h; simp at h
    | none =>
      rw [ht] at h; simp at h
      simp only [nodesL, List.mem_append] at hx
      exact hx.elim (findT_none ht x) (findL_none h x)
end
mutual
theorem walk_nodes : ∀ (t : T) (a : Int), (walkT a t).map Prod.snd = nodes t
  | .mk b ka kc id kind n lf kids, a => by simp only [walkT, nodes, List.map_cons, walk_nodesL kids]
theorem walk_nodesL : ∀ (l : List T) (a : Int), (walkL a l).map Prod.snd = nodesL l
  | [], _ => rfl
  | t :: r, a => by simp only [walkL, nodesL, List.map_append, walk_nodes t a, walk_nodesL r (a + wd t)]
end
mutual
theorem skel_nodes : ∀ t : T, nodes (skel t) = (nodes t).map skel
  | .mk b ka kc id kind n lf kids => by simp only [skel, nodes, List.map_cons, skel_nodesL kids]
theorem skel_nodesL : ∀ l : List T, nodesL (skelL l) = (nodesL l).map skel
  | [] => rfl
  | t :: r => by simp only [skelL, nodesL, List.map_append, skel_nodes t, skel_nodesL r]
end
theorem nodes_ids {t u : T} (h : skel t = skel u) : (nodes t).map T.id = (nodes u).map T.id := by
  have h1 : (nodes (skel t)).map T.id = (nodes (skel u)).map T.id := by rw [h]
  rw [skel_nodes, skel_nodes, List.map_map, List.map_map] at h1
  have h2 : T.id ∘ skel = T.id := funext fun t => skel_id t
  rwa [h2] at h1
theorem findT_has {k : Int} {t : T} : (findT k t).isSome = decide (k ∈ (nodes t).map T.id) := by
  cases h : findT k t with
  | some x =>
    have := findT_some h
    simp only [Option.isSome_some]
    exact (decide_eq_true (List.mem_map.2 ⟨x, this.1, this.2⟩)).symm
  | none =>
    simp only [Option.isSome_none]
    refine (decide_eq_false fun hm => ?_).symm
    obtain ⟨x, hx, hk⟩ := List.mem_map.1 hm
    exact findT_none h x hx hk
theorem kn_has {k : Int} {t : T} : (lookM (kn (walkT 0 t)) k).isSome = decide (k ∈ (nodes t).map T.id) := by
  have h := (kn_look (walkT 0 t) k).1
  rw [Bool.eq_iff_iff, h, decide_eq_true_eq, ← walk_nodes t 0, List.map_map, List.mem_map]
  exact ⟨fun ⟨p, h1, h2⟩ => ⟨p, h1, h2⟩, fun ⟨p, h1, h2⟩ => ⟨p, h1, h2⟩⟩
theorem has_two {t u : T} (h : skel t = skel u) : (fun k => (lookM (kn (walkT 0 t)) k).isSome) = fun k => (findT k u).isSome := by
  funext k; rw [kn_has, findT_has, nodes_ids h]
mutual
theorem skel_script (has : Int → Bool) : ∀ t : T, script has (skel t) = script has t
  | .mk b ka kc id kind n lf kids => by
    simp only [skel, script]
    rw [skel_scriptL has kids, skelL_map, List.length_map]
theorem skel_scriptL (has : Int → Bool) : ∀ l : List T, scriptL has (skelL l) = scriptL has l
  | [] => rfl
  | t :: r => by simp only [skelL, scriptL, skel_script has t, skel_scriptL has r]
end
abbrev hasR (ra : T) : Int → Bool := fun k => (findT k ra).isSome
theorem script_two {ta tb ua ub : T} (h1 : skel ta = skel ua) (h2 : skel tb = skel ub) : script (fun k => (lookM (kn (walkT 0 ta)) k).isSome) tb = script (hasR ua) ub := by
  rw [has_two h1, ← skel_script _ tb, h2, skel_script]
theorem scriptL_app (has : Int → Bool) : ∀ a b : List T, scriptL has (a ++ b) = scriptL has a ++ scriptL has b
  | [], _ => rfl
  | t :: a, b => by simp only [List.cons_append, scriptL, scriptL_app has a b, List.append_assoc]
theorem script_nodeR {has : Int → Bool} {t : T} (h : has t.id = false) (hk : t.kind ≠ 1) : script has t = scriptL has t.kids ++ [makeO t.kind t.n t.kids.length] := by cases t; simp only [T.id, T.kind] at *; simp [script, h, hk, T.kids, T.kind, T.n]
theorem Own.opv {w : World} {g n cap : Nat} {H : List OpD} (h : Vx.Own w 88 9 (.slice (some ⟨g, 0, none⟩) n cap) n (opC H)) {i : Nat} {e : OpD} (hi : H[i]? = some e) : CellsL w g (i * 9) e.cs := h.cells (flat_get OpD.cs 9 (fun _ => rfl) hi)
end Go.Proofs.Ythhbnodnpajljaa
