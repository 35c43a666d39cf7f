/-
  The document's nodes in memory (as data they are trees like the program's), and what two trees have in common that differ in their places in memory alone. No conditions.
-/
import Derived.Test.YthhbnodnpajljaaDhk
set_option linter.unusedVariables false
set_option linter.unusedSimpArgs false
namespace Go.Proofs.Ythhbnodnpajljaa
open Go Go.RowKit Go.Vx

/-! ### the document's nodes -/
def refC (t : T) : Array Value :=
  #[.int .i64 t.id, .int .i64 t.kind, .int .i64 t.n, .int .i64 (sz t), .int .i64 t.lf.kind, .int .i64 t.lf.skip, .int .i64 t.lf.len, .int .i64 t.lf.reach, kidsV t.ka t.kids.length t.kc]
def rowR (w : World) (ka : Option Nat) (kids : List T) : Prop :=
  match ka with
  | none => kids = []
  | some k => ∃ cur, Blk w k cur 38 ∧ cur.toList.take kids.length = kids.map T.ptr
mutual
def PR (w : World) : T → Prop
  | .mk b ka kc id kind n lf kids => Blk w b (refC (.mk b ka kc id kind n lf kids)) 86 ∧ kids.length ≤ kc ∧ rowR w ka kids ∧ PRL w kids
def PRL (w : World) : List T → Prop
  | [] => True
  | t :: r => PR w t ∧ PRL w r
end
theorem PRL_mem {w : World} : ∀ {l : List T} {t : T}, PRL w l → t ∈ l → PR w t
  | _ :: _, _, h, .head _ => h.1
  | _ :: _, _, h, .tail _ hm => PRL_mem h.2 hm
theorem PRL.get {w : World} {l : List T} {i : Nat} {u : T} (h : PRL w l) (hi : l[i]? = some u) : PR w u := PRL_mem h (List.mem_of_getElem? hi)
theorem PRL_of {w : World} : ∀ {l : List T}, (∀ t ∈ l, PR w t) → PRL w l
  | [], _ => trivial
  | t :: r, h => ⟨h t (.head _), PRL_of fun u hu => h u (.tail _ hu)⟩
theorem PRL_snoc {w : World} {l : List T} {t : T} (h : PRL w l) (ht : PR w t) : PRL w (l ++ [t]) :=
  PRL_of fun u hu => by rcases List.mem_append.1 hu with h1 | h1; exact PRL_mem h h1; simp at h1; subst h1; exact ht
theorem PNL_of {st : Value} {w : World} : ∀ {l : List T}, (∀ t ∈ l, PN st w t) → PNL st w l
  | [], _ => trivial
  | t :: r, h => ⟨h t (.head _), PNL_of fun u hu => h u (.tail _ hu)⟩
theorem PNL_snoc {st : Value} {w : World} {l : List T} {t : T} (h : PNL st w l) (ht : PN st w t) : PNL st w (l ++ [t]) := PNL_append h ⟨ht, trivial⟩
theorem rowR.keep {K : Nat → Prop} {w w' : World} {ka : Option Nat} {kids : List T} (h : rowR w ka kids) (c : Chg K w w') (hk : ∀ x ∈ ka.toList, ¬ K x) : rowR w' ka kids := by
  cases ka with
  | none => exact h
  | some k => obtain ⟨cur, hb, ht⟩ := h; exact ⟨cur, hb.keep c (hk k (by simp)), ht⟩
mutual
theorem PR.keep {K : Nat → Prop} {w w' : World} (c : Chg K w w') : ∀ {t : T}, PR w t → (∀ x ∈ blocks t, ¬ K x) → PR w' t
  | .mk b ka kc id kind n lf kids, h, hk => by
    simp only [PR] at h ⊢
    simp only [blocks, List.mem_cons, List.mem_append] at hk
    exact ⟨h.1.keep c (hk b (.inl rfl)), h.2.1, h.2.2.1.keep c fun x hx => hk x (.inr (.inl hx)), PRL.keep c h.2.2.2 fun x hx => hk x (.inr (.inr hx))⟩
theorem PRL.keep {K : Nat → Prop} {w w' : World} (c : Chg K w w') : ∀ {l : List T}, PRL w l → (∀ x ∈ blocksL l, ¬ K x) → PRL w' l
  | [], _, _ => trivial
  | t :: r, h, hk => ⟨PR.keep c h.1 fun x hx => hk x (List.mem_append_left _ hx), PRL.keep c h.2 fun x hx => hk x (List.mem_append_right _ hx)⟩
end
theorem PR.ext {w w' : World} {t : T} (h : PR w t) (c : Ext w w') : PR w' t := PR.keep c h fun _ _ => not_false
theorem PRL.ext {w w' : World} {t : List T} (h : PRL w t) (c : Ext w w') : PRL w' t := PRL.keep c h fun _ _ => not_false
theorem PR.blk {w : World} {t : T} (h : PR w t) : Blk w t.b (refC t) 86 := by cases t; simp only [PR] at h; exact h.1
theorem PR.cap {w : World} {t : T} (h : PR w t) : t.kids.length ≤ t.kc := by cases t; simp only [PR] at h; exact h.2.1
theorem PR.row {w : World} {t : T} (h : PR w t) : rowR w t.ka t.kids := by cases t; simp only [PR] at h; exact h.2.2.1
theorem PR.kids {w : World} {t : T} (h : PR w t) : PRL w t.kids := by cases t; simp only [PR] at h; exact h.2.2.2
theorem rowR_of {w : World} {ka : Option Nat} {kids : List T} (h : rowR w ka kids) : RowA w (ka.map fun k => ⟨k, 0, none⟩) (kids.map T.ptr) := by
  cases ka with
  | none => show kids.map T.ptr = []; rw [show kids = [] from h]; rfl
  | some k =>
    obtain ⟨cur, hb, ht⟩ := h
    refine ⟨fun _ => rfl, ?_⟩
    refine hb.cells fun j v hj => ?_
    rw [← ht, List.getElem?_take] at hj
    split at hj
    · simpa using hj
    · cases hj
theorem PR.kid {w : World} {t : T} (h : PR w t) {k : Nat} (hk : t.ka = some k) {i : Nat} {u : T} (hi : t.kids[i]? = some u) : w.cell? ⟨k, i, none⟩ = some u.ptr := by
  have hr := rowR_of h.row
  rw [hk] at hr
  have := cellsL_get (o := 0) (i := i) (v := u.ptr) hr.2 (by simp [hi])
  simpa using this
theorem PR.ka_some {w : World} {t : T} (h : PR w t) (hk : t.kids ≠ []) : ∃ k, t.ka = some k := by
  have hr := h.row
  cases hka : t.ka with
  | none => rw [hka] at hr; exact absurd hr hk
  | some k => exact ⟨k, rfl⟩
mutual
theorem PR.off {w : World} {s : Nat} {cs : Array Value} {ty : TypeId} (hs : Blk w s cs ty) (h1 : ty ≠ 86) (h2 : ty ≠ 38) : ∀ {t : T}, PR w t → ∀ x ∈ blocks t, x ≠ s
  | .mk b ka kc id kind n lf kids, h => by
    simp only [PR] at h
    simp only [blocks, List.mem_cons, List.mem_append]
    rintro x (rfl | hx | hx) rfl
    · exact h1 (hs.same h.1).2
    · cases ka with
      | none => simp at hx
      | some k =>
        obtain ⟨cur, hb, _⟩ := h.2.2.1
        simp at hx; subst hx; exact h2 (hs.same hb).2
    · exact PRL.off hs h1 h2 h.2.2.2 x hx rfl
theorem PRL.off {w : World} {s : Nat} {cs : Array Value} {ty : TypeId} (hs : Blk w s cs ty) (h1 : ty ≠ 86) (h2 : ty ≠ 38) : ∀ {l : List T}, PRL w l → ∀ x ∈ blocksL l, x ≠ s
  | [], _ => by simp [blocksL]
  | t :: r, h => by
    simp only [blocksL, List.mem_append]
    rintro x (hx | hx)
    · exact PR.off hs h1 h2 h.1 x hx
    · exact PRL.off hs h1 h2 h.2 x hx
end
mutual
theorem PR.lt {w : World} : ∀ {t : T}, PR w t → ∀ x ∈ blocks t, x < w.heap.size
  | .mk b ka kc id kind n lf kids, h => by
    simp only [PR] at h
    simp only [blocks, List.mem_cons, List.mem_append]
    rintro x (rfl | hx | hx)
    · exact h.1.lt
    · cases ka with
      | none => simp at hx
      | some k =>
        obtain ⟨cur, hb, _⟩ := h.2.2.1
        simp at hx; subst hx; exact hb.lt
    · exact PRL.lt h.2.2.2 x hx
theorem PRL.lt {w : World} : ∀ {l : List T}, PRL w l → ∀ x ∈ blocksL l, x < w.heap.size
  | [], _ => by simp [blocksL]
  | t :: r, h => by
    simp only [blocksL, List.mem_append]
    rintro x (hx | hx)
    · exact PR.lt h.1 x hx
    · exact PRL.lt h.2 x hx
end
theorem PR_mk {w : World} {b : Nat} {ka : Option Nat} {kc : Nat} {id kind n : Int} {lf : Lf} {kids : List T} (h : Blk w b #[.int .i64 id, .int .i64 kind, .int .i64 n, .int .i64 (1 + szL kids), .int .i64 lf.kind, .int .i64 lf.skip, .int .i64 lf.len, .int .i64 lf.reach, kidsV ka kids.length kc] 86)
    (hc : kids.length ≤ kc) (hr : rowR w ka kids) (hp : PRL w kids) : PR w (.mk b ka kc id kind n lf kids) := by
  simp only [PR]
  exact ⟨by simpa [refC, T.id, T.kind, T.n, T.lf, T.ka, T.kids, T.kc, sz] using h, hc, hr, hp⟩

/-! ### without the places in memory -/
mutual
def skel : T → T
  | .mk _ _ _ id kind n lf kids => .mk 0 none 0 id kind n lf (skelL kids)
def skelL : List T → List T
  | [] => []
  | t :: r => skel t :: skelL r
end
theorem skelL_map : ∀ l : List T, skelL l = l.map skel
  | [] => rfl
  | t :: r => by simp [skelL, skelL_map r]
theorem skel_id (t : T) : (skel t).id = t.id := by cases t; rfl
theorem skel_kind (t : T) : (skel t).kind = t.kind := by cases t; rfl
theorem skel_n (t : T) : (skel t).n = t.n := by cases t; rfl
theorem skel_lf (t : T) : (skel t).lf = t.lf := by cases t; rfl
theorem skel_kids (t : T) : (skel t).kids = t.kids.map skel := by cases t; simp [skel, T.kids, skelL_map]
mutual
theorem skel_sz : ∀ t : T, sz (skel t) = sz t
  | .mk _ _ _ _ _ _ _ kids => by simp only [skel, sz, skel_szL kids]
theorem skel_szL : ∀ l : List T, szL (skelL l) = szL l
  | [] => rfl
  | t :: r => by simp only [skelL, szL, skel_sz t, skel_szL r]
end
mutual
theorem skel_wd : ∀ t : T, wd (skel t) = wd t
  | .mk _ _ _ _ _ _ _ kids => by simp only [skel, wd, skel_wdL kids]
theorem skel_wdL : ∀ l : List T, wdL (skelL l) = wdL l
  | [] => rfl
  | t :: r => by simp only [skelL, wdL, skel_wd t, skel_wdL r]
end
mutual
theorem skel_WF : ∀ {t : T}, WF t → WF (skel t)
  | .mk _ _ _ _ kind _ _ kids, h => by
    simp only [skel, WF] at h ⊢
    refine ⟨fun hk => ⟨?_, (h.1 hk).2⟩, h.2.1, skel_WFL h.2.2⟩
    rw [(h.1 hk).1]; rfl
theorem skel_WFL : ∀ {l : List T}, WFL l → WFL (skelL l)
  | [], _ => trivial
  | t :: r, h => ⟨skel_WF h.1, skel_WFL h.2⟩
end
mutual
theorem WF_skel : ∀ {t : T}, WF (skel t) → WF t
  | .mk _ _ _ _ kind _ _ kids, h => by
    simp only [skel, WF] at h ⊢
    refine ⟨fun hk => ⟨?_, (h.1 hk).2⟩, h.2.1, WFL_skel h.2.2⟩
    have h0 := (h.1 hk).1
    cases kids with
    | nil => rfl
    | cons a r => simp [skelL] at h0
theorem WFL_skel : ∀ {l : List T}, WFL (skelL l) → WFL l
  | [], _ => trivial
  | t :: r, h => ⟨WF_skel h.1, WFL_skel h.2⟩
end
mutual
/-- a tree's leaves -/
def rl : T → List T
  | .mk b ka kc id kind n lf kids => if kind = 1 then [.mk b ka kc id kind n lf kids] else rlL kids
def rlL : List T → List T
  | [] => []
  | t :: r => rl t ++ rlL r
end
theorem rl_leaf {t : T} (h : t.kind = 1) : rl t = [t] := by cases t; simp only [T.kind] at h; simp [rl, h]
theorem rl_node {t : T} (h : t.kind ≠ 1) : rl t = rlL t.kids := by cases t; simp only [T.kind] at h; simp [rl, h, T.kids]
theorem rlL_app (l r : List T) : rlL (l ++ r) = rlL l ++ rlL r := by
  induction l with
  | nil => rfl
  | cons t l ih => simp only [List.cons_append, rlL, ih, List.append_assoc]
mutual
theorem rl_len : ∀ t : T, ((rl t).length : Int) ≤ sz t
  | .mk b ka kc id kind n lf kids => by
    have := rlL_len kids; have := szL_nonneg kids
    simp only [rl, sz]; split
    · simp; omega
    · omega
theorem rlL_len : ∀ l : List T, ((rlL l).length : Int) ≤ szL l
  | [] => by simp [rlL, szL]
  | t :: r => by have := rl_len t; have := rlL_len r; simp only [rlL, szL, List.length_append]; omega
end
mutual
theorem skel_rl : ∀ t : T, rl (skel t) = (rl t).map skel
  | .mk b ka kc id kind n lf kids => by
    simp only [rl, skel]; split
    · simp [skel]
    · exact skel_rlL kids
theorem skel_rlL : ∀ l : List T, rlL (skelL l) = (rlL l).map skel
  | [] => rfl
  | t :: r => by simp only [skelL, rlL, skel_rl t, skel_rlL r, List.map_append]
end
theorem rl_ids {t u : T} (h : skel t = skel u) : (rl t).map T.id = (rl u).map T.id := by
  have h1 : (rl (skel t)).map T.id = (rl (skel u)).map T.id := by rw [h]
  rw [skel_rl, skel_rl, List.map_map, List.map_map] at h1
  have h2 : T.id ∘ skel = T.id := funext fun t => skel_id t
  rwa [h2] at h1
mutual
theorem walk_rl : ∀ (t : T) (a : Int), WF t → ((walkT a t).filter isLeaf).map Prod.snd = rl t
  | .mk b ka kc id kind n lf kids, a, h => by
    simp only [walkT, rl, List.filter_cons]
    by_cases hk : kind = 1
    · have hl := (WF.leaf h hk).1
      simp only [T.kids] at hl
      subst hl
      simp [isLeaf, T.kind, hk, walkL]
    · have h3 := walk_rlL kids (if kind = 1 then a + lfw lf else a) (by simp only [WF] at h; exact h.2.2)
      simp only [isLeaf, T.kind, hk, decide_false, if_false] at h3 ⊢
      simpa using h3
theorem walk_rlL : ∀ (l : List T) (a : Int), WFL l → ((walkL a l).filter isLeaf).map Prod.snd = rlL l
  | [], _, _ => rfl
  | t :: r, a, h => by simp only [walkL, rlL, List.filter_append, List.map_append, walk_rl t a h.1, walk_rlL r (a + wd t) h.2]
end
theorem leafI_rl {t : T} (h : WF t) : (leafI t).map Prod.snd = rl t := walk_rl t 0 h
theorem leafI_ids {t u : T} (h : WF t) (hs : skel t = skel u) : ids (leafI t) = (rl u).map T.id := by
  rw [← rl_ids hs, ← leafI_rl h, ids, List.map_map]; rfl
mutual
/-- every node of a tree -/
def nodes : T → List T
  | .mk b ka kc id kind n lf kids => .mk b ka kc id kind n lf kids :: nodesL kids
def nodesL : List T → List T
  | [] => []
  | t :: r => nodes t ++ nodesL r
end
theorem rl_PR {w : World} : ∀ {t : T}, PR w t → PRL w (rl t) := by
  have key : ∀ n : Nat, ∀ t : T, (sz t).toNat = n → PR w t → PRL w (rl t) := by
    intro n
    induction n using Nat.strongRecOn with
    | _ n ih =>
      intro t ht h
      by_cases hk : t.kind = 1
      · rw [rl_leaf hk]; exact ⟨h, trivial⟩
      · rw [rl_node hk]
        have hz := sz_kids t
        have : ∀ l : List T, (∀ u ∈ l, u ∈ t.kids) → PRL w (rlL l) := by
          intro l
          induction l with
          | nil => exact fun _ => trivial
          | cons u l il =>
            intro hl
            have hu := hl u (.head _)
            have h1 := szL_mem hu; have h2 := sz_pos u
            have h3 := ih (sz u).toNat (by omega) u rfl (PRL_mem h.kids hu)
            have h4 := il fun v hv => hl v (.tail _ hv)
            simp only [rlL]
            exact PRL_of fun v hv => (List.mem_append.1 hv).elim (PRL_mem h3) (PRL_mem h4)
        exact this _ fun u hu => hu
  intro t h
  exact key _ t rfl h
theorem szL_take (l : List T) (i : Nat) : szL (l.take i) ≤ szL l := by
  have h1 := szL_append (l.take i) (l.drop i)
  rw [List.take_append_drop] at h1
  have h2 := szL_nonneg (l.drop i)
  omega
theorem refC_ka {t : T} {k : Nat} (hk : t.ka = some k) : refC t = #[.int .i64 t.id, .int .i64 t.kind, .int .i64 t.n, .int .i64 (sz t), .int .i64 t.lf.kind, .int .i64 t.lf.skip, .int .i64 t.lf.len, .int .i64 t.lf.reach, .slice (some ⟨k, 0, none⟩) t.kids.length t.kc] := by
  simp [refC, kidsV, hk]
/-! ### arrays in memory -/
def arrT (P : Program) (t : TypeId) : Option (Nat × TypeId × Nat) := match P.underlying t with | some (.array n e) => (P.info? e).map fun i => (n, e, i.size) | _ => none
theorem ox_indexArr {P : Program} {ρ : Operand → Value} {w : World} {K : Value → World → Prop} {dst : Option Tmp} {ty : TypeId} {pos : String} {af : Array Edge} {gd : Option (Nat × Bool)} {x ix : Operand} {t e : TypeId} {n sz b o : Nat} {k : IntKind} {i : Int}
    (ht : arrT P t = some (n, e, sz)) (hx : ρ x = .pointer (some ⟨b, o, none⟩)) (hi : ρ ix = .int k i) (h0 : 0 ≤ i) (h1 : i < n) (h : K (.pointer (some ⟨b, o + i.toNat * sz, none⟩)) w) : OpX P ⟨dst, .indexAddr t x ix, ty, pos, af, gd⟩ ρ w K := by
  unfold arrT at ht
  cases hu : P.underlying t with
  | none => rw [hu] at ht; cases ht
  | some d =>
    rw [hu] at ht
    cases d <;> try (cases ht; done)
    rename_i m e'
    simp only at ht
    cases hj : P.info? e' with
    | none => rw [hj] at ht; cases ht
    | some j =>
      rw [hj] at ht
      simp only [Option.map_some, Option.some.injEq, Prod.mk.injEq] at ht
      obtain ⟨rfl, rfl, rfl⟩ := ht
      refine ox_val (v := .pointer (some ⟨b, o + i.toNat * j.size, none⟩)) (w' := w) ?_ h
      have ha : (⟨b, o, none⟩ : Addr).add (i.toNat * j.size) = ⟨b, o + i.toNat * j.size, none⟩ := by
        unfold Addr.add; split
        · rename_i h0; simp [h0]
        · rfl
      simp [execOp, Instr.indexAt, hx, hi, asIntOf, Instr.sureAddr, Sem.run_bind, run_underlying hu, Result.andThen, h0, h1, sizeOf, typeInfo, hj, ha]
/-! ### the document's once, its hunks -/
def onceR (l : List Int) (k : Int) : Int := match onceN l k with | some i => (i : Int) | none => -1
theorem onceR_bd (l : List Int) (k : Int) : -1 ≤ onceR l k ∧ onceR l k < l.length := by
  unfold onceR
  cases h : onceN l k with
  | none => simp only; omega
  | some i => have := onceN_lt h; simp only; omega
theorem take_snoc {l : List Int} {i : Nat} {x : Int} (h : l[i]? = some x) : l.take (i + 1) = l.take i ++ [x] := take_succ' h
theorem once_hit {l : List Int} {i : Nat} {k : Int} (h : l[i]? = some k) (h0 : (l.take i).count k = 0) : (l.take (i + 1)).count k = 1 ∧ (l.take (i + 1)).idxOf k = i := by
  have hn : k ∉ l.take i := List.count_eq_zero.1 h0
  have hl : (l.take i).length = i := by rw [List.length_take]; have := (List.getElem?_eq_some_iff.1 h).1; omega
  rw [take_snoc h, count_snoc, if_pos rfl, h0, List.idxOf_append, if_neg hn]
  simp [hl]
theorem once_twice {l : List Int} {i : Nat} {k : Int} (h : l[i]? = some k) (h1 : (l.take i).count k = 1) : onceN l k = none := by
  unfold onceN
  rw [if_neg]
  have h2 : l.count k = (l.take (i + 1)).count k + (l.drop (i + 1)).count k := by rw [← List.count_append, List.take_append_drop]
  rw [take_snoc h, count_snoc, if_pos rfl] at h2
  omega
theorem once_miss {l : List Int} {i : Nat} {k x : Int} (h : l[i]? = some x) (hx : x ≠ k) : (l.take (i + 1)).count k = (l.take i).count k ∧ ((l.take i).count k = 1 → (l.take (i + 1)).idxOf k = (l.take i).idxOf k) := by
  rw [take_snoc h, count_snoc, if_neg (Ne.symm hx)]
  refine ⟨rfl, fun h1 => ?_⟩
  have hm : k ∈ l.take i := List.count_pos_iff.1 (by omega)
  rw [List.idxOf_append, if_pos hm]
theorem onceR_some {l : List Int} {k : Int} (h : l.count k = 1) : onceR l k = (l.idxOf k : Nat) := by unfold onceR onceN; rw [if_pos h]
theorem onceR_none {l : List Int} {k : Int} (h : onceN l k = none) : onceR l k = -1 := by unfold onceR; rw [h]
theorem onceR_zero {l : List Int} {k : Int} (h : l.count k = 0) : onceR l k = -1 := onceR_none (by unfold onceN; rw [if_neg (by omega)])
theorem hstep_skip {l m : List Int} {s : HS} {i : Nat} {k : Int} (hk : l[i]? = some k) (hs : 0 ≤ s.2.1) (h : onceR m k < s.2.1 ∨ onceR l k < 0) : hstep l m s i = s := by
  unfold hstep
  simp only [hk]
  unfold onceR at h
  cases h1 : onceN l k with
  | none => rfl
  | some a =>
    cases h2 : onceN m k with
    | none => rfl
    | some b =>
      simp only [h1, h2] at h ⊢
      rw [if_neg (by omega)]
theorem hstep_add {l m : List Int} {s : HS} {i : Nat} {k : Int} (hk : l[i]? = some k) (hs : 0 ≤ s.2.1) (h : ¬ (onceR m k < s.2.1 ∨ onceR l k < 0)) : hstep l m s i = hadd s i (onceR m k) := by
  unfold hstep
  simp only [hk]
  unfold onceR at h ⊢
  cases h1 : onceN l k with
  | none => simp only [h1] at h; omega
  | some a =>
    cases h2 : onceN m k with
    | none => simp only [h1, h2] at h; omega
    | some b =>
      simp only [h1, h2] at h ⊢
      rw [if_pos (by omega)]
/-- the states of the document's loop, one round more than there are leaves -/
def hst (l m : List Int) (i : Nat) : HS := if i ≤ l.length then hgo l m i else hadd (hgo l m l.length) l.length m.length
theorem hst_le {l m : List Int} {i : Nat} (h : i ≤ l.length) : hst l m i = hgo l m i := if_pos h
theorem hst_succ {l m : List Int} {i : Nat} (h : i < l.length) : hst l m (i + 1) = hstep l m (hst l m i) i := by rw [hst_le (by omega), hst_le (by omega), hgo_succ]
theorem hst_last {l m : List Int} {i : Nat} (h : i = l.length) : hst l m (i + 1) = hadd (hst l m i) i m.length := by subst h; rw [hst_le (Nat.le_refl _)]; unfold hst; rw [if_neg (by omega)]
theorem hst_hunks {l m : List Int} {i : Nat} (h : i = l.length + 1) : (hst l m i).2.2 = hunks l m := by subst h; unfold hst hunks; rw [if_neg (by omega)]
theorem hst_bd {l m : List Int} {i : Nat} (h : i ≤ l.length) : (0 ≤ (hst l m i).1 ∧ (hst l m i).1 ≤ i) ∧ (0 ≤ (hst l m i).2.1 ∧ (hst l m i).2.1 ≤ m.length) ∧ (hst l m i).2.2.length ≤ i := by rw [hst_le h]; exact hgo_bd l m i h
theorem hadd_pos {s : HS} {to up : Int} (h : s.1 < to ∨ s.2.1 < up) : (hadd s to up).2.2 = s.2.2 ++ [⟨s.1, to, s.2.1, up⟩] := by unfold hadd; exact if_pos h
theorem hadd_neg {s : HS} {to up : Int} (h : ¬ (s.1 < to ∨ s.2.1 < up)) : (hadd s to up).2.2 = s.2.2 := by unfold hadd; exact if_neg h
end Go.Proofs.Ythhbnodnpajljaa
