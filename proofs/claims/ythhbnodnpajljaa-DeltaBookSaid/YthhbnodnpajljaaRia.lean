/-
  What a script makes, plainly: the tree, with the nodes of the older one. No conditions.
-/
import Derived.Test.YthhbnodnpajljaaRap
import Derived.Laws.MakeOwn
set_option linter.unusedVariables false
set_option linter.unusedSimpArgs false
namespace Go.Proofs.Ythhbnodnpajljaa
open Go Go.RowKit Go.Vx

/-- make, of no elements and some room -/
theorem ox_makeSlice0 {P : Program} {ρ : Operand → Value} {w : World} {K : Value → World → Prop} {dst : Option Tmp} {ty : TypeId} {pos : String} {af : Array Edge} {gd : Option (Nat × Bool)} {x y : Operand} {t e : TypeId} {sz by_ : Nat} {z : Value} {k k' : IntKind} {i : Int} (c : Nat)
    (ht : sliceT P t = some (e, sz, by_, z)) (hx : ρ x = .int k 0) (hy : ρ y = .int k' i) (hi : i = ((c : Nat) : Int)) (hb : by_ * c ≤ 281474976710656) (hm : c ≤ 9223372036854775807)
    (h : ∀ w', Ext w w' → w.heap.size < w'.heap.size → Vx.Own w' e sz (.slice (some ⟨w.heap.size, 0, none⟩) 0 c) 0 [] → K (.slice (some ⟨w.heap.size, 0, none⟩) 0 c) w') : OpX P ⟨dst, .makeSlice t x y, ty, pos, af, gd⟩ ρ w K := by
  subst hi
  obtain ⟨hu, i, hi, hz, hs, hby⟩ := slice_of ht
  obtain ⟨w', hr, ho, hg⟩ := run_make_own (P := P) w 0 t e i z sz hu hi hz hs k k' c (by rw [hby]; exact hb) (by unfold maxLen; omega) (Nat.zero_le _)
  have ho' : Vx.Own w' e sz (.slice (some ⟨w.heap.size, 0, none⟩) 0 c) 0 [] := ho
  refine ox_val (v := .slice (some ⟨w.heap.size, 0, none⟩) 0 c) (w' := w') ?_ (h w' (chg_grown hg fun k hk => by cases hk) (ho'.lt _ rfl) ho')
  simp [execOp, hx, hy, Sem.run_bind, Result.andThen, hr]

/-! ### rows -/
def rowC (t : T) : List Value := [.int .i64 t.kind, .int .i64 t.n, .int .i64 t.lf.skip, .int .i64 t.lf.len, .int .i64 (t.kids.length : Nat), .int .i64 t.id]
def rwC (l : List T) : List Value := l.flatMap rowC
theorem rwC_snoc (l : List T) (t : T) : rwC (l ++ [t]) = rwC l ++ rowC t := by simp [rwC]
theorem rwC_len (l : List T) : (rwC l).length = l.length * 6 := by
  induction l with
  | nil => rfl
  | cons o l ih => simp only [rwC, List.flatMap_cons, List.length_append, List.length_cons] at ih ⊢; simp only [rowC, List.length_cons, List.length_nil]; omega
mutual
theorem nodes_len : ∀ t : T, ((nodes t).length : Int) = sz t
  | .mk _ _ _ _ _ _ _ kids => by have := nodes_lenL kids; simp only [nodes, sz, List.length_cons]; omega
theorem nodes_lenL : ∀ l : List T, ((nodesL l).length : Int) = szL l
  | [] => rfl
  | t :: r => by have := nodes_len t; have := nodes_lenL r; simp only [nodesL, szL, List.length_append]; omega
end
theorem walk_len (t : T) : (walkT 0 t).length = (nodes t).length := by rw [← walk_nodes t 0, List.length_map]
/-- within Rows' range -/
structure RwI (B : Nat) (w : World) (tb : Nat) (pre : List (Int × T)) (A : Option Addr) (c : Nat) (Y : Nat → Prop) (W : World) : Prop where
  blk : Blk W tb #[.slice A pre.length c] 64
  own : Vx.Own W 70 6 (.slice A pre.length c) pre.length (rwC (pre.map Prod.snd))
  ny : ¬ Y tb
  no : ∀ k, (Value.slice A pre.length c).ownBlock = some k → ¬ Y k ∧ B ≤ k
  low : B ≤ tb
  chg : Chg (fun b => B ≤ b) w W
def rwI (B : Nat) (w : World) (tb : Nat) (pre : List (Int × T)) (Y : Nat → Prop) (W : World) : Prop := ∃ A c, RwI B w tb pre A c Y W
theorem rwI_stab {B : Nat} {w : World} {tb : Nat} : Stab B (rwI B w tb) := by
  rintro pre Y W Y2 W2 hY ⟨A, c, h⟩ hc hY2
  have hn : ∀ b, b < W.heap.size → ¬ Y b → ¬ Y2 b := fun b hb hy h2 => (hY2 b h2).elim hy fun h3 => by omega
  exact ⟨A, c, h.blk.keep hc h.ny, h.own.keep hc fun k hk => (h.no k hk).1, hn _ h.blk.lt h.ny, fun k hk => ⟨hn k (h.own.lt k hk) (h.no k hk).1, (h.no k hk).2⟩, h.low, Chg.trans h.chg hc fun b hb _ => (hY b hb).1⟩
/-- two nodes whose rows are alike but for the numbers -/
def rowE (x y : T) : Prop := x.kind = y.kind ∧ x.n = y.n ∧ x.lf.skip = y.lf.skip ∧ x.lf.len = y.lf.len ∧ x.kids.length = y.kids.length
theorem rowE.cs {x y : T} (h : rowE x y) : rowC y = [.int .i64 x.kind, .int .i64 x.n, .int .i64 x.lf.skip, .int .i64 x.lf.len, .int .i64 (x.kids.length : Nat), .int .i64 y.id] := by
  obtain ⟨h1, h2, h3, h4, h5⟩ := h; simp [rowC, h1, h2, h3, h4, h5]

/-! ### what is made -/
mutual
def frz (has : Int → Bool) : T → T
  | .mk b ka kc id kind n lf kids => if has id then skel (.mk b ka kc id kind n lf kids) else .mk 0 none 0 0 kind n lf (frzL has kids)
def frzL (has : Int → Bool) : List T → List T
  | [] => []
  | t :: r => frz has t :: frzL has r
end
theorem frzL_map (has : Int → Bool) : ∀ l : List T, frzL has l = l.map (frz has)
  | [] => rfl
  | t :: r => by simp [frzL, frzL_map has r]
mutual
theorem frz_sz (has : Int → Bool) : ∀ t : T, sz (frz has t) = sz t
  | .mk b ka kc id kind n lf kids => by
    simp only [frz]; split
    · exact skel_sz _
    · simp only [sz, frz_szL has kids]
theorem frz_szL (has : Int → Bool) : ∀ l : List T, szL (frzL has l) = szL l
  | [] => rfl
  | t :: r => by simp only [frzL, szL, frz_sz has t, frz_szL has r]
end
theorem aRun_app (find : Int → Option T) : ∀ (l r : List OpD) (st st' : List T), aRun find l st = .inr st' → aRun find (l ++ r) st = aRun find r st'
  | [], r, st, st', h => by simp only [aRun] at h; cases h; rfl
  | o :: l, r, st, st', h => by
    simp only [List.cons_append, aRun] at h ⊢
    cases hs : aStep find st o with
    | inl e => rw [hs] at h; cases h
    | inr s2 => rw [hs] at h; exact aRun_app find l r s2 st' h
theorem aRun_one {find : Int → Option T} {o : OpD} {st st' : List T} (h : aStep find st o = .inr st') : aRun find [o] st = .inr st' := by simp [aRun, h]
theorem right_make (kind n : Int) (k : Nat) : rightD (makeO kind n k) := by right; right; exact ⟨rfl, rfl, rfl⟩
mutual
theorem aRun_script {find : Int → Option T} {has : Int → Bool} : ∀ (t : T) (st : List T), (∀ x ∈ nodes t, has x.id = true → find x.id = some (skel x)) → (∀ x ∈ nodes t, fitN x) → WF t → sz t ≤ 4194304 → aRun find (script has t) st = .inr (st ++ [frz has t])
  | .mk b ka kc id kind n lf kids, st, hf, hn, hw, hz => by
    by_cases hid : has id = true
    · rw [script_has (t := .mk b ka kc id kind n lf kids) hid]
      have h1 := hf _ (nodes_self _) hid
      simp only [T.id] at h1 ⊢
      refine (aRun_one (aStep_keep (x := skel (.mk b ka kc id kind n lf kids)) (.inl ⟨rfl, rfl, rfl, rfl, rfl⟩) rfl h1)).trans ?_
      simp only [frz]; rw [if_pos hid]
    · have hid' : has id = false := by simpa using hid
      by_cases hk : kind = 1
      · subst hk
        rw [script_leaf (t := .mk b ka kc id 1 n lf kids) hid' rfl]
        obtain ⟨h1, h2⟩ := WF.leaf (t := .mk b ka kc id 1 n lf kids) hw rfl
        simp only [T.kids, T.n, T.lf] at h1 h2
        subst h1; subst h2
        refine (aRun_one (aStep_leaf (.inr (.inl ⟨rfl, rfl, rfl, rfl, rfl⟩)) rfl)).trans ?_
        simp only [frz]; rw [if_neg hid]; rfl
      · have hz2 : 1 + szL kids ≤ 4194304 := by simpa only [sz] using hz
        have hnn := szL_nonneg kids
        have hz3 := frz_szL has kids
        rw [script_nodeR (t := .mk b ka kc id kind n lf kids) hid' hk]
        simp only [T.kids, T.kind, T.n]
        have h1 := aRun_scriptL (find := find) (has := has) kids st (fun x hx => hf x (by simp [nodes, hx])) (fun x hx => hn x (by simp [nodes, hx])) hw.kids (by omega)
        rw [aRun_app find _ _ _ _ h1]
        rcases hn _ (nodes_self _) with h2 | ⟨h2, h3⟩
        · exact absurd h2 hk
        simp only [T.kind, T.n, T.lf] at h2 h3
        have hl : (frzL has kids).length = kids.length := by rw [frzL_map, List.length_map]
        have hk0 : st.length = (st ++ frzL has kids).length - (makeO kind n kids.length).kids.toNat := by rw [List.length_append, hl]; show st.length = _ - ((kids.length : Nat) : Int).toNat; omega
        refine (aRun_one (aStep_make (right_make _ _ _) (show (3 : Int) ≠ 1 by decide) (show (3 : Int) ≠ 2 by decide) ?_ h2 st.length hk0 ?_)).trans ?_
        · show ¬ (((kids.length : Nat) : Int) < 0 ∨ ((st ++ frzL has kids).length : Int) < ((kids.length : Nat) : Int)); rw [List.length_append, hl]; omega
        · rw [List.drop_left]; omega
        · rw [List.drop_left, List.take_left]
          simp only [frz]; rw [if_neg hid]; rw [h3]; rfl
theorem aRun_scriptL {find : Int → Option T} {has : Int → Bool} : ∀ (l : List T) (st : List T), (∀ x ∈ nodesL l, has x.id = true → find x.id = some (skel x)) → (∀ x ∈ nodesL l, fitN x) → WFL l → szL l ≤ 4194304 → aRun find (scriptL has l) st = .inr (st ++ frzL has l)
  | [], st, _, _, _, _ => by simp [scriptL, frzL, aRun]
  | t :: r, st, hf, hn, hw, hz => by
    have h1 := sz_pos t; have h2 := szL_nonneg r
    have hz' : sz t + szL r ≤ 4194304 := by simpa only [szL] using hz
    have h3 := aRun_script (find := find) (has := has) t st (fun x hx => hf x (by simp [nodesL, hx])) (fun x hx => hn x (by simp [nodesL, hx])) hw.1 (by omega)
    have h4 := aRun_scriptL (find := find) (has := has) r (st ++ [frz has t]) (fun x hx => hf x (by simp [nodesL, hx])) (fun x hx => hn x (by simp [nodesL, hx])) hw.2 (by omega)
    simp only [scriptL, frzL]
    rw [aRun_app find _ _ _ _ h3, h4, List.append_assoc]; rfl
end
theorem aEnd_script {find : Int → Option T} {has : Int → Bool} {t : T} (hf : ∀ x ∈ nodes t, has x.id = true → find x.id = some (skel x)) (hn : ∀ x ∈ nodes t, fitN x) (hw : WF t) (hz : sz t ≤ 4194304) : aEnd find (script has t) = .inr (frz has t) := by
  have h1 := script_len has t
  exact aEnd_one (by omega) (by simpa using aRun_script t [] hf hn hw hz)

/-! ### node by node -/
/-- what the law says of a node of the tree that is made, and its elder -/
def mkE (has : Int → Bool) (x y : T) : Prop := rowE x y ∧ ((has y.id = true ∧ x.id = y.id) ∨ (has y.id = false ∧ has x.id = false ∧ x.id ≠ y.id))
/-- two rows of like length, place by place -/
def two (R : T → T → Prop) : List T → List T → Prop
  | [], [] => True
  | x :: a, y :: b => R x y ∧ two R a b
  | _, _ => False
theorem two_len {R : T → T → Prop} : ∀ {a b : List T}, two R a b → a.length = b.length
  | [], [], _ => rfl
  | _ :: a, _ :: b, h => by simp only [List.length_cons, two_len h.2]
  | [], _ :: _, h => h.elim
  | _ :: _, [], h => h.elim
theorem two_get {R : T → T → Prop} : ∀ {a b : List T} {i : Nat} {x y : T}, two R a b → a[i]? = some x → b[i]? = some y → R x y
  | [], [], _, _, _, _, h, _ => by simp at h
  | x :: a, y :: b, 0, _, _, h, h1, h2 => by simp at h1 h2; subst h1; subst h2; exact h.1
  | x :: a, y :: b, i + 1, _, _, h, h1, h2 => two_get h.2 (by simpa using h1) (by simpa using h2)
  | [], _ :: _, _, _, _, h, _, _ => h.elim
  | _ :: _, [], _, _, _, h, _, _ => h.elim
theorem two_app {R : T → T → Prop} : ∀ {a b c d : List T}, two R a b → two R c d → two R (a ++ c) (b ++ d)
  | [], [], _, _, _, h => h
  | _ :: _, _ :: _, _, _, h, h2 => ⟨h.1, two_app h.2 h2⟩
  | [], _ :: _, _, _, h, _ => h.elim
  | _ :: _, [], _, _, h, _ => h.elim
theorem two_mono {R S : T → T → Prop} : ∀ {a b : List T}, (∀ x ∈ a, ∀ y ∈ b, R x y → S x y) → two R a b → two S a b
  | [], [], _, _ => trivial
  | x :: a, y :: b, h, h2 => ⟨h x (.head _) y (.head _) h2.1, two_mono (fun u hu v hv => h u (.tail _ hu) v (.tail _ hv)) h2.2⟩
  | [], _ :: _, _, h => h.elim
  | _ :: _, [], _, h => h.elim
/-- a node of the tree that is made, and its elder: kept, or new -/
def frE (m : Int) (has : Int → Bool) (x y : T) : Prop := rowE x y ∧ ((has y.id = true ∧ (if x.id ≤ m then x.id else 0) = y.id) ∨ (has y.id = false ∧ (if x.id ≤ m then x.id else 0) = 0))
mutual
theorem two_skel {m : Int} {has : Int → Bool} : ∀ (p t : T), skz m p = skel t → (∀ x ∈ nodes t, has x.id = true) → two (frE m has) (nodes p) (nodes t)
  | .mk b ka kc id kind n lf kids, .mk b' ka' kc' id' kind' n' lf' kids', h, hh => by
    simp only [skz, skel, T.mk.injEq] at h
    obtain ⟨_, _, _, h1, h2, h3, h4, h5⟩ := h
    have h6 := congrArg List.length h5
    rw [skzL_map, skelL_map, List.length_map, List.length_map] at h6
    simp only [nodes]
    exact ⟨⟨⟨h2, h3, by simp only [T.lf, h4], by simp only [T.lf, h4], h6⟩, .inl ⟨hh _ (nodes_self _), h1⟩⟩, two_skelL kids kids' h5 fun x hx => hh x (by simp [nodes, hx])⟩
theorem two_skelL {m : Int} {has : Int → Bool} : ∀ (p t : List T), skzL m p = skelL t → (∀ x ∈ nodesL t, has x.id = true) → two (frE m has) (nodesL p) (nodesL t)
  | [], [], _, _ => trivial
  | x :: a, y :: b, h, hh => by
    simp only [skzL, skelL, List.cons.injEq] at h
    simp only [nodesL]
    exact two_app (two_skel x y h.1 fun x hx => hh x (by simp [nodesL, hx])) (two_skelL a b h.2 fun x hx => hh x (by simp [nodesL, hx]))
  | [], _ :: _, h, _ => by simp [skzL, skelL] at h
  | _ :: _, [], h, _ => by simp [skzL, skelL] at h
end
mutual
theorem two_frz {m : Int} {has : Int → Bool} : ∀ (p t : T), skz m p = frz has t → (∀ x ∈ nodes t, has x.id = true → ∀ y ∈ nodes x, has y.id = true) → two (frE m has) (nodes p) (nodes t)
  | .mk b ka kc id kind n lf kids, .mk b' ka' kc' id' kind' n' lf' kids', h, hh => by
    by_cases hid : has id' = true
    · refine two_skel _ _ ?_ (hh _ (nodes_self _) hid)
      rw [h]; simp only [frz]; rw [if_pos hid]
    · simp only [frz] at h
      rw [if_neg hid] at h
      simp only [skz, T.mk.injEq] at h
      obtain ⟨_, _, _, h1, h2, h3, h4, h5⟩ := h
      have h6 := congrArg List.length h5
      rw [skzL_map, frzL_map, List.length_map, List.length_map] at h6
      simp only [nodes]
      exact ⟨⟨⟨h2, h3, by simp only [T.lf, h4], by simp only [T.lf, h4], h6⟩, .inr ⟨show has id' = false from Bool.eq_false_iff.2 hid, h1⟩⟩, two_frzL kids kids' h5 fun x hx => hh x (by simp [nodes, hx])⟩
theorem two_frzL {m : Int} {has : Int → Bool} : ∀ (p t : List T), skzL m p = frzL has t → (∀ x ∈ nodesL t, has x.id = true → ∀ y ∈ nodes x, has y.id = true) → two (frE m has) (nodesL p) (nodesL t)
  | [], [], _, _ => trivial
  | x :: a, y :: b, h, hh => by
    simp only [skzL, frzL, List.cons.injEq] at h
    simp only [nodesL]
    exact two_app (two_frz x y h.1 fun x hx => hh x (by simp [nodesL, hx])) (two_frzL a b h.2 fun x hx => hh x (by simp [nodesL, hx]))
  | [], _ :: _, h, _ => by simp [skzL, frzL] at h
  | _ :: _, [], h, _ => by simp [skzL, frzL] at h
end
theorem two_mk {m : Int} {has : Int → Bool} {p t : T} (h : skz m p = frz has t) (hc : ∀ x ∈ nodes t, has x.id = true → ∀ y ∈ nodes x, has y.id = true) (hp : ∀ x ∈ nodes p, 1 ≤ x.id) (ht : ∀ x ∈ nodes t, 1 ≤ x.id ∧ x.id ≤ m) (hm : ∀ k, has k = true → k ≤ m) : two (mkE has) (nodes p) (nodes t) := by
  refine two_mono (fun x hx y hy hxy => ⟨hxy.1, ?_⟩) (two_frz p t h hc)
  have h1 := hp x hx; have h2 := ht y hy
  rcases hxy.2 with ⟨h3, h4⟩ | ⟨h3, h4⟩
  · split at h4
    · exact .inl ⟨h3, h4⟩
    · omega
  · split at h4
    · omega
    · rename_i h5
      refine .inr ⟨h3, ?_, by omega⟩
      cases h6 : has x.id with
      | false => rfl
      | true => exact absurd (hm _ h6) h5

mutual
theorem script_bd (has : Int → Bool) : ∀ t : T, ∀ o ∈ script has t, (1 ≤ o.d ∧ o.d ≤ 3) ∧ 0 ≤ o.kids ∧ o.kids ≤ sz t
  | .mk b ka kc id kind n lf kids, o, ho => by
    have h1 := szL_nonneg kids; have h2 := szL_len kids
    simp only [script] at ho
    simp only [sz]
    split at ho
    · simp at ho; subst ho; simp [keepO]; omega
    · split at ho
      · simp at ho; subst ho; simp [leafO]; omega
      · rcases List.mem_append.1 ho with ho | ho
        · have := script_bdL has kids o ho; omega
        · simp at ho; subst ho; simp only [makeO]; omega
theorem script_bdL (has : Int → Bool) : ∀ l : List T, ∀ o ∈ scriptL has l, (1 ≤ o.d ∧ o.d ≤ 3) ∧ 0 ≤ o.kids ∧ o.kids ≤ szL l
  | [], o, ho => by simp [scriptL] at ho
  | t :: r, o, ho => by
    have h1 := szL_nonneg r; have h2 := sz_pos t
    simp only [scriptL] at ho
    simp only [szL]
    rcases List.mem_append.1 ho with ho | ho
    · have := script_bd has t o ho; omega
    · have := script_bdL has r o ho; omega
end
theorem script_opR {has : Int → Bool} {t : T} (h : sz t ≤ 4194304) : ∀ o ∈ script has t, opR o := by
  intro o ho
  have := script_bd has t o ho
  unfold opR; omega
theorem GOk.same {ts us : List T} (h : GOk ts us) {x y : T} (hx : x ∈ ts) (hy : y ∈ ts) (e : x.id = y.id) : x = y := by
  obtain ⟨i, hi⟩ := List.mem_iff_getElem?.1 hx
  obtain ⟨j, hj⟩ := List.mem_iff_getElem?.1 hy
  have h1 := h.ids i x hi
  have h2 := h.ids j y hj
  obtain rfl : i = j := by omega
  rw [hi] at hj; exact Option.some.inj hj
theorem GOk.node {ts us : List T} (h : GOk ts us) {t : T} (ht : t ∈ ts) : ∀ x ∈ nodes t, x ∈ ts := nodes_closed h.kids t ht
theorem makes_end {ts us : List T} (h : GOk ts us) {ta tb : T} (ha : ta ∈ ts) (hb : tb ∈ ts) : aEnd (fun k => (findT k ta).map (skz ((ts.length : Nat) : Int))) (script (hasR ta) tb) = .inr (frz (hasR ta) tb) := by
  refine aEnd_script (fun x hx hh => ?_) (fun x hx => h.fit x (h.node hb x hx)) (WFL_mem h.wf hb) (by have := h.size tb hb; omega)
  obtain ⟨z, hz⟩ := Option.isSome_iff_exists.1 hh
  obtain ⟨h1, h2⟩ := findT_some hz
  have h3 : z = x := h.same (h.node ha z h1) (h.node hb x hx) h2
  rw [hz]
  simp only [Option.map_some]
  rw [skz_skel fun y hy => (h.nid ha y (nodes_tr h1 hy)).2, h3]
theorem hasR_mem {ta : T} {k : Int} : hasR ta k = decide (k ∈ (nodes ta).map T.id) := findT_has
theorem makes_two {ts us : List T} (h : GOk ts us) {ta tb p : T} (ha : ta ∈ ts) (hb : tb ∈ ts) (hs : skz ((ts.length : Nat) : Int) p = frz (hasR ta) tb) (hp : ∀ x ∈ nodes p, 1 ≤ x.id) : two (mkE (hasR ta)) (nodes p) (nodes tb) := by
  refine two_mk hs (fun x hx hh y hy => ?_) hp (h.nid hb) (fun k hk => ?_)
  · rw [hasR_mem, decide_eq_true_eq] at hh ⊢
    obtain ⟨z, hz, h2⟩ := List.mem_map.1 hh
    have h3 : z = x := h.same (h.node ha z hz) (h.node hb x hx) h2
    subst h3
    exact List.mem_map.2 ⟨y, nodes_tr hz hy, rfl⟩
  · rw [hasR_mem, decide_eq_true_eq] at hk
    obtain ⟨z, hz, rfl⟩ := List.mem_map.1 hk
    exact (h.nid ha z hz).2
theorem script_self (t : T) : script (hasR t) t = [keepO t.id] := script_has (by show (findT t.id t).isSome = true; rw [findT_hit rfl]; rfl)
theorem has_self (t : T) : (fun k => (lookM (kn (walkT 0 t)) k).isSome) = hasR t := has_two rfl
theorem slice_off {A : Option Addr} {n c m s : Nat} (h : ∀ k, (Value.slice A n c).ownBlock = some k → m ≤ k) (hs : s < m) : ∀ a, A = some a → a.block ≠ s := by
  intro a ha e
  subst ha
  have := h a.block rfl
  omega
end Go.Proofs.Ythhbnodnpajljaa
