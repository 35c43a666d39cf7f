/-
  More of trees in memory: rows of them, sums along a row. No conditions.
-/
import Derived.Test.YthhbnodnpajljaaDt
import Derived.Test.YthhbnodnpajljaaVxh
set_option linter.unusedVariables false
set_option linter.unusedSimpArgs false
namespace Go.Proofs.Ythhbnodnpajljaa
open Go Go.RowKit Go.Vx

mutual
theorem PN.off {st : Value} {w : World} {s : Nat} {cs : Array Value} {ty : TypeId} (hs : Blk w s cs ty) (h1 : ty ≠ 124) (h2 : ty ≠ 36) : ∀ {t : T}, PN st w t → ∀ x ∈ blocks t, x ≠ s
  | .mk b ka kc id kind n lf kids, h => by
    simp only [PN] at h
    simp only [blocks, List.mem_cons, List.mem_append]
    rintro x (rfl | hx | hx) rfl
    · exact h1 (hs.same h.1).2
    · cases ka with
      | none => simp at hx
      | some k =>
        obtain ⟨cur, hb, _⟩ := h.2.2.1
        simp at hx; subst hx; exact h2 (hs.same hb).2
    · exact PNL.off hs h1 h2 h.2.2.2 x hx rfl
theorem PNL.off {st : Value} {w : World} {s : Nat} {cs : Array Value} {ty : TypeId} (hs : Blk w s cs ty) (h1 : ty ≠ 124) (h2 : ty ≠ 36) : ∀ {l : List T}, PNL st w l → ∀ x ∈ blocksL l, x ≠ s
  | [], _ => by simp [blocksL]
  | t :: r, h => by
    simp only [blocksL, List.mem_append]
    rintro x (hx | hx)
    · exact PN.off hs h1 h2 h.1 x hx
    · exact PNL.off hs h1 h2 h.2 x hx
end
theorem PNL.get {st : Value} {w : World} {l : List T} {i : Nat} {u : T} (h : PNL st w l) (hi : l[i]? = some u) : PN st w u := PNL_mem h (List.mem_of_getElem? hi)
theorem take_succ' {α : Type} {l : List α} {i : Nat} {u : α} (hi : l[i]? = some u) : l.take (i + 1) = l.take i ++ [u] := by rw [List.take_add_one, hi]; rfl
theorem wdL_succ {l : List T} {i : Nat} {u : T} (hi : l[i]? = some u) : wdL (l.take (i + 1)) = wdL (l.take i) + wd u := by rw [take_succ' hi, wdL_append]; simp [wdL]
theorem szL_succ {l : List T} {i : Nat} {u : T} (hi : l[i]? = some u) : szL (l.take (i + 1)) = szL (l.take i) + sz u := by rw [take_succ' hi, szL_append]; simp [szL]
theorem lcL_append : ∀ (l r : List T), lcL (l ++ r) = lcL l + lcL r
  | [], r => by simp [lcL]
  | t :: l, r => by simp only [List.cons_append, lcL, lcL_append l r]; omega
theorem flL_append : ∀ (l r : List T), flL (l ++ r) = (flL l || flL r)
  | [], r => by simp [flL]
  | t :: l, r => by simp only [List.cons_append, flL, flL_append l r, Bool.or_assoc]
theorem lcL_succ {l : List T} {i : Nat} {u : T} (hi : l[i]? = some u) : lcL (l.take (i + 1)) = lcL (l.take i) + lc u := by rw [take_succ' hi, lcL_append]; simp [lcL]
theorem flL_succ {l : List T} {i : Nat} {u : T} (hi : l[i]? = some u) : flL (l.take (i + 1)) = (flL (l.take i) || fl u) := by rw [take_succ' hi, flL_append]; simp [flL]
theorem get_len {α : Type} {l : List α} {i : Nat} {u : α} (hi : l[i]? = some u) : i < l.length := (List.getElem?_eq_some_iff.1 hi).1
theorem get_ex {α : Type} {l : List α} {i : Nat} (hi : i < l.length) : ∃ u, l[i]? = some u := ⟨l[i], List.getElem?_eq_getElem hi⟩
/-- bounds, of rows of trees none of which is too large -/
theorem wdL_cap : ∀ {l : List T}, (∀ t ∈ l, sz t ≤ 4194304) → 0 ≤ wdL l ∧ wdL l ≤ 2199023255552 * l.length
  | [], _ => by simp [wdL]
  | t :: l, h => by
    have h1 := wd_bd t; have h2 := h t (.head _); have h3 := wdL_cap (l := l) fun x hx => h x (.tail _ hx)
    simp only [wdL, List.length_cons]; omega
theorem szL_cap : ∀ {l : List T}, (∀ t ∈ l, sz t ≤ 4194304) → 0 ≤ szL l ∧ szL l ≤ 4194304 * l.length
  | [], _ => by simp [szL]
  | t :: l, h => by
    have h1 := sz_pos t; have h2 := h t (.head _); have h3 := szL_cap (l := l) fun x hx => h x (.tail _ hx)
    simp only [szL, List.length_cons]; omega
theorem lcL_le (l : List T) : 0 ≤ lcL l ∧ lcL l ≤ szL l := lcL_bd l
/-- rows so far, as Make counts them -/
def tot (x : Int) : Int := if 4194305 < x then 4194305 else x
theorem tot_succ {x y : Int} (hy : 0 ≤ y) : (if 4194305 < tot x + y then 4194305 else tot x + y) = tot (x + y) := by unfold tot; split <;> split <;> (try split) <;> omega

def leafT (b : Nat) (id : Int) (l : Lf) : T := .mk b none 0 id 1 l.kind l []
def lfV (l : Lf) : Value := .agg #[.int .i64 l.kind, .int .i64 l.skip, .int .i64 l.len, .int .i64 l.reach]
def lf0 : Lf := ⟨0, 0, 0, 0⟩
def badKind (kind n : Int) : Prop := kind < 2 ∨ 5 < kind ∨ n < 0 ∨ (n ≠ 0 ∧ kind ≠ 2)
instance (kind n : Int) : Decidable (badKind kind n) := by unfold badKind; infer_instance
theorem nodeC_leaf (st : Value) (b : Nat) (id : Int) (l : Lf) : nodeC st (leafT b id l) = #[st, .int .i64 id, .int .i64 1, .int .i64 l.kind, .int .i64 l.kind, .int .i64 l.skip, .int .i64 l.len, .int .i64 l.reach, .slice none 0 0, .int .i64 (byt l.skip + byt l.len), .int .i64 1, .int .i64 1, .bool (decide (l.kind = -1))] := by
  simp [nodeC, leafT, T.id, T.kind, T.n, T.lf, T.ka, T.kids, T.kc, kidsV, wd, lc, sz, fl, lfw, szL]
theorem PN_leaf {st : Value} {w : World} {b : Nat} {id : Int} {l : Lf} (h : Blk w b #[st, .int .i64 id, .int .i64 1, .int .i64 l.kind, .int .i64 l.kind, .int .i64 l.skip, .int .i64 l.len, .int .i64 l.reach, .slice none 0 0, .int .i64 (byt l.skip + byt l.len), .int .i64 1, .int .i64 1, .bool (decide (l.kind = -1))] 124) : PN st w (leafT b id l) := by
  have h1 := nodeC_leaf st b id l
  unfold leafT at h1 ⊢
  simp only [PN]
  exact ⟨by rw [h1]; exact h, Nat.le_refl _, rfl, trivial⟩
theorem nodeC_mk (st : Value) (b : Nat) (ka : Option Nat) (kc : Nat) (id kind n : Int) (kids : List T) (hk : kind ≠ 1) : nodeC st (.mk b ka kc id kind n lf0 kids) = #[st, .int .i64 id, .int .i64 kind, .int .i64 n, .int .i64 0, .int .i64 0, .int .i64 0, .int .i64 0, kidsV ka kids.length kc, .int .i64 (wdL kids), .int .i64 (lcL kids), .int .i64 (1 + szL kids), .bool ((decide (kind = 3) || decide (kind = 5)) || flL kids)] := by
  simp [nodeC, T.id, T.kind, T.n, T.lf, T.ka, T.kids, T.kc, wd, lc, sz, fl, hk, lf0]
theorem PN_mk {st : Value} {w : World} {b : Nat} {ka : Option Nat} {kc : Nat} {id kind n : Int} {kids : List T} (hk : kind ≠ 1) (h : Blk w b #[st, .int .i64 id, .int .i64 kind, .int .i64 n, .int .i64 0, .int .i64 0, .int .i64 0, .int .i64 0, kidsV ka kids.length kc, .int .i64 (wdL kids), .int .i64 (lcL kids), .int .i64 (1 + szL kids), .bool ((decide (kind = 3) || decide (kind = 5)) || flL kids)] 124)
    (hc : kids.length ≤ kc) (hr : rowAt w ka kids) (hp : PNL st w kids) : PN st w (.mk b ka kc id kind n lf0 kids) := by
  simp only [PN]
  exact ⟨by rw [nodeC_mk st b ka kc id kind n kids hk]; exact h, hc, hr, hp⟩
theorem szL_bd_take {l : List T} (h : ∀ t ∈ l, sz t ≤ 4194304) (i : Nat) : 0 ≤ szL (l.take i) ∧ szL (l.take i) ≤ 4194304 * l.length := by
  have h1 := szL_cap (l := l.take i) fun t ht => h t (List.mem_of_mem_take ht)
  have h2 : (l.take i).length ≤ l.length := by rw [List.length_take]; omega
  omega
theorem wdL_bd_take {l : List T} (h : ∀ t ∈ l, sz t ≤ 4194304) (i : Nat) : 0 ≤ wdL (l.take i) ∧ wdL (l.take i) ≤ 2199023255552 * l.length := by
  have h1 := wdL_cap (l := l.take i) fun t ht => h t (List.mem_of_mem_take ht)
  have h2 : (l.take i).length ≤ l.length := by rw [List.length_take]; omega
  omega
theorem tot_bd (x : Int) : tot x ≤ 4194305 ∧ (0 ≤ x → 0 ≤ tot x) := by unfold tot; split <;> omega
/-- what Make tells -/
def MakeR (w : World) (s : Nat) (c kind n : Int) (kids : List T) (v : Value) (w' : World) : Prop :=
  (badKind kind n ∧ v = .tuple #[.pointer none, .int .i64 101] ∧ Ext w w') ∨
  (¬ badKind kind n ∧ 4194304 < 1 + szL kids ∧ v = .tuple #[.pointer none, .int .i64 6] ∧ Ext w w') ∨
  (¬ badKind kind n ∧ 1 + szL kids ≤ 4194304 ∧ ∃ b ka kc, let t := T.mk b ka kc (c + 1) kind n lf0 kids
    v = .tuple #[t.ptr, .int .i64 0] ∧ w.heap.size ≤ b ∧ (∀ k ∈ ka, w.heap.size ≤ k) ∧ PN (.pointer (some ⟨s, 0, none⟩)) w' t ∧ Blk w' s #[.int .i64 (c + 1)] 140 ∧ Chg1 s w w')
/-- what slices.Backward tells of a row of nodes -/
def backI (kids : List T) : List (Nat × T) := (kids.zipIdx.map fun p => (p.2, p.1)).reverse
def encB (x : Nat × T) : Array Value := #[.int .i64 (x.1 : Nat), x.2.ptr]
theorem backI_len (kids : List T) : (backI kids).length = kids.length := by simp [backI]
theorem backI_get {kids : List T} {j : Nat} {u : T} (hj : j < kids.length) (hu : kids[kids.length - 1 - j]? = some u) : (backI kids)[j]? = some (kids.length - 1 - j, u) := by
  unfold backI
  rw [List.getElem?_reverse (by simpa using hj)]
  simp only [List.length_map, List.length_zipIdx, List.getElem?_map, List.getElem?_zipIdx, hu]
  simp
theorem backI_snd (kids : List T) : (backI kids).map Prod.snd = kids.reverse := by
  unfold backI
  rw [List.map_reverse, List.map_map]
  congr 1
  have : ((Prod.snd : Nat × T → T) ∘ fun p : T × Nat => (p.2, p.1)) = Prod.fst := rfl
  rw [this, List.zipIdx_map_fst]
/-! ### walking: the nodes of a tree, each with its place -/
mutual
def walkT : Int → T → List (Int × T)
  | a, .mk b ka kc id kind n lf kids => (a, .mk b ka kc id kind n lf kids) :: walkL (if kind = 1 then a + lfw lf else a) kids
def walkL : Int → List T → List (Int × T)
  | _, [] => []
  | a, t :: r => walkT a t ++ walkL (a + wd t) r
end
def encW (x : Int × T) : Array Value := #[.int .i64 x.1, x.2.ptr]
theorem walkL_append (a : Int) : ∀ (l r : List T), walkL a (l ++ r) = walkL a l ++ walkL (a + wdL l) r := by
  intro l
  induction l generalizing a with
  | nil => intro r; simp [walkL, wdL]
  | cons t l ih => intro r; simp only [List.cons_append, walkL, wdL, ih, List.append_assoc, Int.add_assoc]
theorem WF.kids {t : T} (h : WF t) : WFL t.kids := by cases t; simp only [WF] at h; exact h.2.2
theorem WF.leaf {t : T} (h : WF t) (hk : t.kind = 1) : t.kids = [] ∧ t.n = t.lf.kind := by cases t; simp only [WF] at h; exact h.1 hk
theorem wd_leaf {t : T} (hk : t.kind = 1) : wd t = lfw t.lf := by cases t; simp only [T.kind] at hk; simp [wd, hk, T.lf]
theorem wd_inner {t : T} (hk : t.kind ≠ 1) : wd t = wdL t.kids := by cases t; simp only [T.kind] at hk; simp [wd, hk, T.kids]
theorem sz_kids (t : T) : sz t = 1 + szL t.kids := by cases t; simp [sz, T.kids]
/-- one step of the walk: the next node, then its children, ahead of what is still to come -/
theorem walk_step {x : T} (hw : WF x) (a : Int) (st : List T) : walkL a (x :: st) = (a, x) :: walkL (if x.kind = 1 then a + wd x else a) (x.kids ++ st) := by
  rw [walkL_append]
  by_cases hk : x.kind = 1
  · have hl := hw.leaf hk
    have h1 : walkT a x = [(a, x)] := by
      cases x; simp only [T.kind, T.kids] at hk hl; simp [walkT, hl.1, walkL]
    rw [walkL, h1, if_pos hk, hl.1]; simp [walkL, wdL]
  · have h1 : walkT a x = (a, x) :: walkL a x.kids := by
      cases x; simp only [T.kind] at hk; simp [walkT, hk, T.kids]
    rw [walkL, h1, if_neg hk, wd_inner hk]; simp
theorem walkT_single (a : Int) (t : T) : walkT a t = walkL a [t] := by simp [walkL]
theorem WFL_append : ∀ {l r : List T}, WFL l → WFL r → WFL (l ++ r)
  | [], _, _, h => h
  | _ :: _, _, h, h' => ⟨h.1, WFL_append h.2 h'⟩
theorem PNL_append {st : Value} {w : World} : ∀ {l r : List T}, PNL st w l → PNL st w r → PNL st w (l ++ r)
  | [], _, _, h => h
  | _ :: _, _, h, h' => ⟨h.1, PNL_append h.2 h'⟩
theorem blocksL_append : ∀ (l r : List T), blocksL (l ++ r) = blocksL l ++ blocksL r
  | [], _ => rfl
  | t :: l, r => by simp only [List.cons_append, blocksL, blocksL_append l r, List.append_assoc]
theorem blocks_kidsL {t : T} {x : Nat} (h : x ∈ blocksL t.kids) : x ∈ blocks t := by cases t; simp only [T.kids] at h; simp [blocks, h]
end Go.Proofs.Ythhbnodnpajljaa
