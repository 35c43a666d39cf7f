/-
  A grove: a store, its nodes, the same nodes plainly; how it lies in memory. No conditions.
-/
import Derived.Test.YthhbnodnpajljaaRfa
import Derived.Test.YthhbnodnpajljaaDeb
set_option linter.unusedVariables false
set_option linter.unusedSimpArgs false
namespace Go.Proofs.Ythhbnodnpajljaa
open Go Go.RowKit Go.Vx

/-- how a node is made -/
structure PB where
  kind : Int
  n : Int
  lf : Lf
  A : Option Addr
  c : Nat
  ks : List Int
def PB.cs (x : PB) : List Value := [.int .i64 x.kind, .int .i64 x.n, .int .i64 x.lf.kind, .int .i64 x.lf.skip, .int .i64 x.lf.len, .int .i64 x.lf.reach, .slice x.A x.ks.length x.c]
def PB.ok (w : World) (x : PB) : Prop := RowA w x.A (x.ks.map fun i => .int .i64 i) ∧ x.ks.length * 8 ≤ 140737488351232
def pbC (l : List PB) : List Value := l.flatMap PB.cs

theorem Own.exB {w : World} {e : TypeId} {sz n k : Nat} {v : Value} {xs : List Value} (h : Vx.Own w e sz v n xs) (hk : v.ownBlock = some k) : ∃ cur, Blk w k cur e := by
  rcases h.form with ⟨rfl, _⟩ | ⟨g, cap, cur, rfl, hb, _⟩
  · simp [Value.ownBlock] at hk
  · simp [Value.ownBlock] at hk; subst hk; exact ⟨cur, hb⟩
theorem PNL.offO {st : Value} {w : World} {l : List T} (h : PNL st w l) {e : TypeId} {sz n : Nat} {v : Value} {xs : List Value} (ho : Vx.Own w e sz v n xs) (h1 : e ≠ 124) (h2 : e ≠ 36) : ∀ b ∈ blocksL l, v.ownBlock ≠ some b := by
  intro b hb hk
  obtain ⟨cur, hc⟩ := Own.exB ho hk
  exact PNL.off hc h1 h2 h b hb rfl
theorem PRL.offO {w : World} {l : List T} (h : PRL w l) {e : TypeId} {sz n : Nat} {v : Value} {xs : List Value} (ho : Vx.Own w e sz v n xs) (h1 : e ≠ 86) (h2 : e ≠ 38) : ∀ b ∈ blocksL l, v.ownBlock ≠ some b := by
  intro b hb hk
  obtain ⟨cur, hc⟩ := Own.exB ho hk
  exact PRL.off hc h1 h2 h b hb rfl
theorem PN.one {st : Value} {w : World} {t : T} (h : PN st w t) : PNL st w [t] := ⟨h, trivial⟩
theorem PR.one {w : World} {t : T} (h : PR w t) : PRL w [t] := ⟨h, trivial⟩
theorem rowR.off {w : World} {ka : Option Nat} {kids : List T} (h : rowR w ka kids) {b : Nat} {cs : Array Value} {ty : TypeId} (hb : Blk w b cs ty) (ht : ty ≠ 38) : ∀ x ∈ ka.toList, x ≠ b := by
  intro x hx e
  subst e
  cases ka with
  | none => simp at hx
  | some k =>
    obtain ⟨cur, hc, _⟩ := h
    simp at hx; subst hx; exact ht (hb.same hc).2
theorem rowR.ext {w w' : World} {ka : Option Nat} {kids : List T} (h : rowR w ka kids) (c : Ext w w') : rowR w' ka kids := h.keep c fun _ _ => not_false
/-- a row's block is none of the nodes': nor is it after an append of one more node -/
theorem nb_snoc {w : World} {l : List T} {x : T} {v v' : Value} (hat : v'.ownBlock = v.ownBlock ∨ v'.ownBlock = some w.heap.size) (h1 : ∀ b ∈ blocksL l, v.ownBlock ≠ some b) (h2 : ∀ b ∈ blocks x, v.ownBlock ≠ some b) (h3 : ∀ b ∈ blocksL l, b < w.heap.size) (h4 : ∀ b ∈ blocks x, b < w.heap.size) : ∀ b ∈ blocksL (l ++ [x]), v'.ownBlock ≠ some b := by
  intro b hb
  rw [blocksL_append] at hb
  have hb' : b ∈ blocksL l ∨ b ∈ blocks x := by
    rcases List.mem_append.1 hb with h | h
    · exact .inl h
    · exact .inr (by simpa [blocksL] using h)
  rcases hat with e | e <;> rw [e]
  · rcases hb' with h | h
    · exact h1 b h
    · exact h2 b h
  · intro h; cases h
    rcases hb' with h | h
    · exact absurd (h3 _ h) (Nat.lt_irrefl _)
    · exact absurd (h4 _ h) (Nat.lt_irrefl _)
theorem nb_new {b : Nat} {ka : Option Nat} {kc : Nat} {id kind n : Int} {lf : Lf} {kids l : List T} {v : Value} {m : Nat} (hb : m ≤ b) (hk : ∀ k ∈ ka, m ≤ k) (hv : ∀ k, v.ownBlock = some k → k < m) (h : ∀ x ∈ kids, x ∈ l) (h1 : ∀ b ∈ blocksL l, v.ownBlock ≠ some b) : ∀ x ∈ blocks (.mk b ka kc id kind n lf kids), v.ownBlock ≠ some x := by
  intro x hx hvx
  have hlt := hv x hvx
  simp only [blocks, List.mem_cons, List.mem_append] at hx
  rcases hx with rfl | hx | hx
  · omega
  · cases ka with
    | none => simp at hx
    | some k => simp at hx; subst hx; have := hk x rfl; omega
  · have : ∀ l' : List T, (∀ y ∈ l', y ∈ l) → x ∈ blocksL l' → x ∈ blocksL l := by
      intro l'
      induction l' with
      | nil => intro _ h; simp [blocksL] at h
      | cons y l' ih =>
        intro hl hx
        simp only [blocksL, List.mem_append] at hx
        rcases hx with hx | hx
        · exact blocksL_mem (hl y (.head _)) hx
        · exact ih (fun z hz => hl z (.tail _ hz)) hx
    exact h1 x (this kids h hx) hvx
theorem Own.cap0 {w : World} {e : TypeId} {sz n cap : Nat} {A : Option Addr} {xs : List Value} (h : Vx.Own w e sz (.slice A n cap) n xs) : (A = none → cap = 0) ∧ ∀ a, A = some a → a = ⟨a.block, a.off, none⟩ := by
  rcases h.form with ⟨h1, _⟩ | ⟨g, cp, cur, h1, _⟩
  · simp only [Value.slice.injEq] at h1
    obtain ⟨rfl, _, rfl⟩ := h1
    exact ⟨fun _ => rfl, fun a h => by cases h⟩
  · simp only [Value.slice.injEq] at h1
    obtain ⟨rfl, _, rfl⟩ := h1
    exact ⟨fun h => (by cases h), fun a h => by cases h; rfl⟩

/-- trees as Make and Leaf make them -/
def fitN (t : T) : Prop := t.kind = 1 ∨ (¬ badKind t.kind t.n ∧ t.lf = lf0)
/-- what the two rows of a grove have in common -/
structure GOk (ts us : List T) : Prop where
  sk : ts.map skel = us.map skel
  wf : WFL ts
  size : ∀ t ∈ ts, sz t ≤ 1500
  ids : ∀ i t, ts[i]? = some t → t.id = ((i : Nat) : Int) + 1
  kids : ∀ t ∈ ts, ∀ k ∈ t.kids, k ∈ ts
  kidsU : ∀ u ∈ us, ∀ k ∈ u.kids, k ∈ us
  fit : ∀ t ∈ ts, fitN t
theorem GOk.nil : GOk [] [] := ⟨rfl, trivial, fun t h => (by cases h), fun i t h => (by simp at h), fun t h => (by cases h), fun t h => (by cases h), fun t h => (by cases h)⟩
theorem GOk.len {ts us : List T} (h : GOk ts us) : us.length = ts.length := by have := congrArg List.length h.sk; simpa using this.symm
theorem GOk.snoc {ts us : List T} {x u : T} (h : GOk ts us) (h1 : skel x = skel u) (h2 : WF x) (h3 : sz x ≤ 1500) (h4 : x.id = ((ts.length : Nat) : Int) + 1) (h5 : ∀ k ∈ x.kids, k ∈ ts) (h6 : ∀ k ∈ u.kids, k ∈ us) (h7 : fitN x) : GOk (ts ++ [x]) (us ++ [u]) where
  sk := by rw [List.map_append, List.map_append, h.sk]; simp [h1]
  wf := WFL_append h.wf ⟨h2, trivial⟩
  size := fun t ht => by
    rcases List.mem_append.1 ht with ht | ht
    · exact h.size t ht
    · simp at ht; subst ht; exact h3
  ids := fun i t ht => by
    rw [List.getElem?_append] at ht
    split at ht
    · exact h.ids i t ht
    · rename_i hi
      rw [List.getElem?_singleton] at ht
      split at ht
      · cases ht
        have : i = ts.length := by omega
        rw [this]; exact h4
      · cases ht
  kids := fun t ht k hk => by
    rcases List.mem_append.1 ht with ht | ht
    · exact List.mem_append_left _ (h.kids t ht k hk)
    · simp at ht; subst ht; exact List.mem_append_left _ (h5 k hk)
  kidsU := fun t ht k hk => by
    rcases List.mem_append.1 ht with ht | ht
    · exact List.mem_append_left _ (h.kidsU t ht k hk)
    · simp at ht; subst ht; exact List.mem_append_left _ (h6 k hk)
  fit := fun t ht => by
    rcases List.mem_append.1 ht with ht | ht
    · exact h.fit t ht
    · simp at ht; subst ht; exact h7
theorem GOk.at {ts us : List T} (h : GOk ts us) {i : Nat} {t u : T} (ht : ts[i]? = some t) (hu : us[i]? = some u) : skel t = skel u := by
  have := congrArg (·[i]?) h.sk
  simpa [ht, hu] using this
theorem GOk.sizeU {ts us : List T} (h : GOk ts us) : ∀ u ∈ us, sz u ≤ 1500 := by
  intro u hu
  obtain ⟨i, hi⟩ := List.mem_iff_getElem?.1 hu
  obtain ⟨t, ht⟩ := get_ex (l := ts) (i := i) (by rw [← h.len]; exact get_len hi)
  rw [← skel_sz u, ← h.at ht hi, skel_sz]
  exact h.size t (List.mem_of_getElem? ht)
theorem skel_mk {b b' : Nat} {ka ka' : Option Nat} {kc kc' : Nat} {id kind n : Int} {lf : Lf} {k k' : List T} (h : k.map skel = k'.map skel) : skel (.mk b ka kc id kind n lf k) = skel (.mk b' ka' kc' id kind n lf k') := by
  simp only [skel, skelL_map, h]
theorem skel_szL' {k k' : List T} (h : k.map skel = k'.map skel) : szL k = szL k' := by rw [← skel_szL k, ← skel_szL k', skelL_map, skelL_map, h]
theorem WFL_of : ∀ {l : List T}, (∀ t ∈ l, WF t) → WFL l
  | [], _ => trivial
  | t :: r, h => ⟨h t (.head _), WFL_of fun u hu => h u (.tail _ hu)⟩
theorem WF_leafT (b : Nat) (id : Int) (l : Lf) : WF (leafT b id l) := by simp [WF, WFL, leafT]
theorem PR_leaf {w : World} {b : Nat} {id : Int} {l : Lf} (h : Blk w b #[.int .i64 id, .int .i64 1, .int .i64 l.kind, .int .i64 1, .int .i64 l.kind, .int .i64 l.skip, .int .i64 l.len, .int .i64 l.reach, .slice none 0 0] 86) : PR w (leafT b id l) :=
  PR_mk (by simpa [szL, kidsV] using h) (Nat.le_refl _) rfl trivial
theorem sz_leafT (b : Nat) (id : Int) (l : Lf) : sz (leafT b id l) = 1 := by simp [sz, leafT, szL]
theorem blocks_leafT (b : Nat) (id : Int) (l : Lf) : blocks (leafT b id l) = [b] := by simp [blocks, leafT, blocksL]

/-- a grove in memory -/
structure GM (W : World) (bg s : Nat) (ts us : List T) (An Ap : Option Addr) (cn cp : Nat) : Prop where
  g : Blk W bg #[.pointer (some ⟨s, 0, none⟩), .slice An ts.length cn, .slice Ap us.length cp] 31
  on : Vx.Own W 36 1 (.slice An ts.length cn) ts.length (ts.map T.ptr)
  op : Vx.Own W 38 1 (.slice Ap us.length cp) us.length (us.map T.ptr)
  pn : PNL (.pointer (some ⟨s, 0, none⟩)) W ts
  pr : PRL W us
  st : Blk W s #[.int .i64 (ts.length : Nat)] 140
  ok : GOk ts us
  few : ts.length ≤ 200
theorem GM.ext {W W' : World} {bg s : Nat} {ts us : List T} {An Ap : Option Addr} {cn cp : Nat} (h : GM W bg s ts us An Ap cn cp) (c : Ext W W') : GM W' bg s ts us An Ap cn cp :=
  ⟨h.g.ext c, h.on.ext c, h.op.ext c, h.pn.ext c, h.pr.ext c, h.st.ext c, h.ok, h.few⟩
/-- the i-th node, in both rows -/
theorem GM.at {W : World} {bg s : Nat} {ts us : List T} {An Ap : Option Addr} {cn cp : Nat} (h : GM W bg s ts us An Ap cn cp) {i : Nat} (hi : i < ts.length) : ∃ gn gp t u, An = some ⟨gn, 0, none⟩ ∧ Ap = some ⟨gp, 0, none⟩ ∧ ts[i]? = some t ∧ us[i]? = some u ∧ W.cell? ⟨gn, i, none⟩ = some t.ptr ∧ W.cell? ⟨gp, i, none⟩ = some u.ptr ∧
    PN (.pointer (some ⟨s, 0, none⟩)) W t ∧ PR W u ∧ WF t ∧ sz t ≤ 1500 ∧ sz u ≤ 1500 ∧ skel t = skel u := by
  have hl := h.ok.len
  obtain ⟨t, ht⟩ := get_ex hi
  obtain ⟨u, hu⟩ := get_ex (l := us) (i := i) (by omega)
  obtain ⟨gn, c1, e1, _⟩ := h.on.some_of (by omega)
  obtain ⟨gp, c2, e2, _⟩ := h.op.some_of (by omega)
  simp only [Value.slice.injEq, true_and] at e1 e2
  obtain ⟨rfl, rfl⟩ := e1
  obtain ⟨rfl, rfl⟩ := e2
  refine ⟨gn, gp, t, u, rfl, rfl, ht, hu, ?_, ?_, h.pn.get ht, h.pr.get hu, WFL_mem h.ok.wf (List.mem_of_getElem? ht), h.ok.size t (List.mem_of_getElem? ht), h.ok.sizeU u (List.mem_of_getElem? hu), h.ok.at ht hu⟩
  · exact (h.on.cells (o := i) (vs := [t.ptr]) (by intro j v hj; cases j with | zero => (simp at hj; subst hj; simp [ht]) | succ j => simp at hj)).1
  · exact (h.op.cells (o := i) (vs := [u.ptr]) (by intro j v hj; cases j with | zero => (simp at hj; subst hj; simp [hu]) | succ j => simp at hj)).1
end Go.Proofs.Ythhbnodnpajljaa
