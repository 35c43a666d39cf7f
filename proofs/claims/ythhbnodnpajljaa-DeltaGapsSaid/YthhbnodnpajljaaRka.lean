/-
  Gaps, plainly: what stands in no hunk is the same, leaf by leaf. No conditions.
-/
import Derived.Test.YthhbnodnpajljaaRjb
set_option linter.unusedVariables false
set_option linter.unusedSimpArgs false
namespace Go.Proofs.Ythhbnodnpajljaa
open Go Go.RowKit Go.Vx

/-- from a and b on, up to f and t, the two lists are the same -/
structure Run (l m : List Int) (a b f t : Int) : Prop where
  a0 : 0 ≤ a
  b0 : 0 ≤ b
  le : a ≤ f
  eq : f - a = t - b
  fl : f ≤ (l.length : Nat)
  tl : t ≤ (m.length : Nat)
  same : ∀ j : Nat, (j : Int) < f - a → ∃ x, l[(a + j).toNat]? = some x ∧ m[(b + j).toNat]? = some x
theorem Run.nil {l m : List Int} {a b : Int} (h1 : 0 ≤ a) (h2 : 0 ≤ b) (h3 : a ≤ (l.length : Nat)) (h4 : b ≤ (m.length : Nat)) : Run l m a b a b :=
  ⟨h1, h2, by omega, by omega, h3, h4, fun j hj => by omega⟩
theorem Run.snoc {l m : List Int} {a b f t x : Int} (h : Run l m a b f t) (hl : l[f.toNat]? = some x) (hm : m[t.toNat]? = some x) : Run l m a b (f + 1) (t + 1) := by
  have h1 := h.le; have h2 := h.eq; have h3 := h.a0; have h4 := h.b0
  have h5 := (List.getElem?_eq_some_iff.1 hl).1
  have h6 := (List.getElem?_eq_some_iff.1 hm).1
  refine ⟨h3, h4, by omega, by omega, by omega, by omega, fun j hj => ?_⟩
  by_cases hjf : (j : Int) < f - a
  · exact h.same j hjf
  · rw [show (a + (j : Int)).toNat = f.toNat by omega, show (b + (j : Int)).toNat = t.toNat by omega]
    exact ⟨x, hl, hm⟩
/-- hunks lie apart and in order, none is of nothing, what lies between them is the same -/
def gapOk (l m : List Int) (s : Bool) : Bool → Int → Int → List Hk → Int → Int → Prop
  | first, a, b, [], f, t => Run l m a b f t ∧ (s = true → first = false → a < f)
  | first, a, b, h :: r, f, t => Run l m a b h.frm h.into ∧ (h.frm ≤ h.to ∧ h.into ≤ h.upto ∧ h.to ≤ (l.length : Nat) ∧ h.upto ≤ (m.length : Nat)) ∧ (h.frm < h.to ∨ h.into < h.upto) ∧ (first = false → a < h.frm) ∧ gapOk l m s false h.to h.upto r f t
theorem gapOk.weak {l m : List Int} : ∀ {out : List Hk} {first : Bool} {a b f t : Int}, gapOk l m true first a b out f t → gapOk l m false first a b out f t
  | [], _, _, _, _, _, h => ⟨h.1, fun h => by cases h⟩
  | _ :: _, _, _, _, _, _, h => ⟨h.1, h.2.1, h.2.2.1, h.2.2.2.1, h.2.2.2.2.weak⟩
theorem gapOk.more {l m : List Int} {x : Int} : ∀ {out : List Hk} {first : Bool} {a b f t : Int}, gapOk l m true first a b out f t → l[f.toNat]? = some x → m[t.toNat]? = some x → gapOk l m true first a b out (f + 1) (t + 1)
  | [], _, _, _, _, _, h, hl, hm => ⟨h.1.snoc hl hm, fun _ hf => by have := h.1.le; omega⟩
  | _ :: _, _, _, _, _, _, h, hl, hm => ⟨h.1, h.2.1, h.2.2.1, h.2.2.2.1, h.2.2.2.2.more hl hm⟩
theorem gapOk.add {l m : List Int} {s : Bool} {to up f' t' : Int} : ∀ {out : List Hk} {first : Bool} {a b f t : Int}, gapOk l m true first a b out f t → (f ≤ to ∧ t ≤ up ∧ to ≤ (l.length : Nat) ∧ up ≤ (m.length : Nat)) → (f < to ∨ t < up) → Run l m to up f' t' → (s = true → to < f') → gapOk l m s first a b (out ++ [⟨f, to, t, up⟩]) f' t'
  | [], _, _, _, _, _, h, h1, h2, h3, h4 => ⟨h.1, h1, h2, h.2 rfl, h3, fun hs _ => h4 hs⟩
  | _ :: _, _, _, _, _, _, h, h1, h2, h3, h4 => ⟨h.1, h.2.1, h.2.2.1, h.2.2.2.1, h.2.2.2.2.add h1 h2 h3 h4⟩
theorem onceN_get {l : List Int} {k : Int} {i : Nat} (h : onceN l k = some i) : l[i]? = some k := by
  unfold onceN at h
  split at h
  · rename_i hc
    cases h
    have hm : k ∈ l := List.count_pos_iff.1 (by omega)
    rw [List.getElem?_eq_getElem (List.idxOf_lt_length_iff.2 hm)]
    exact congrArg some (List.getElem_idxOf _)
  · cases h
theorem gapOk_hgo (l m : List Int) : ∀ n, n ≤ l.length → gapOk l m true true 0 0 (hgo l m n).2.2 (hgo l m n).1 (hgo l m n).2.1
  | 0, _ => by
    simp only [hgo, List.range_zero, List.foldl_nil]
    exact ⟨Run.nil (by omega) (by omega) (by omega) (by omega), fun _ h => by cases h⟩
  | n + 1, hn => by
    have ih := gapOk_hgo l m n (by omega)
    have hb := hgo_bd l m n (by omega)
    rw [hgo_succ]
    unfold hstep
    cases hl : l[n]? with
    | none => exact ih
    | some k =>
      simp only
      cases h1 : onceN l k with
      | none => exact ih
      | some i =>
        cases h2 : onceN m k with
        | none => exact ih
        | some j =>
          simp only
          split
          · rename_i h3
            have hj := onceN_lt h2
            have hm := onceN_get h2
            have hl' : l[((n : Nat) : Int).toNat]? = some k := by rw [Int.toNat_natCast]; exact hl
            have hm' : m[((j : Nat) : Int).toNat]? = some k := by rw [Int.toNat_natCast]; exact hm
            unfold hadd
            simp only
            split
            · rename_i h4
              refine ih.add ⟨by omega, by omega, by omega, by omega⟩ h4 ((Run.nil (by omega) (by omega) (by omega) (by omega)).snoc hl' hm') fun _ => by omega
            · rename_i h4
              have e1 : (hgo l m n).1 = (n : Nat) := by omega
              have e2 : (hgo l m n).2.1 = (j : Nat) := by omega
              have := ih.more (x := k) (by rw [e1]; exact hl') (by rw [e2]; exact hm')
              rw [e1, e2] at this
              exact this
          · exact ih
theorem gapOk_hunks (l m : List Int) : gapOk l m false true 0 0 (hunks l m) (l.length : Nat) (m.length : Nat) := by
  have ih := gapOk_hgo l m l.length (Nat.le_refl _)
  have hb := hgo_bd l m l.length (Nat.le_refl _)
  unfold hunks hadd
  simp only
  split
  · rename_i h4
    exact ih.add ⟨by omega, by omega, by omega, by omega⟩ h4 (Run.nil (by omega) (by omega) (by omega) (by omega)) fun h => by cases h
  · rename_i h4
    have e1 : (hgo l m l.length).1 = (l.length : Nat) := by omega
    have e2 : (hgo l m l.length).2.1 = (m.length : Nat) := by omega
    rw [e1, e2] at ih
    exact ih.weak
theorem span_told {m : List T} {H : List Hk} {k : Nat} {h : Hk} (hh : H[k]? = some h) (hb : (spanH m h).frm < (spanH m h).to) : (spans m H)[(spans m (H.take k)).length]? = some (spanH m h) ∧ (spans m (H.take (k + 1))).length = (spans m (H.take k)).length + 1 := by
  have h1 := spans_pre (m := m) (H := H) (k + 1)
  rw [spans_yes hh hb] at h1 ⊢
  exact ⟨prefix_at h1, by simp⟩

abbrev iV (i : Int) : Value := .int .i64 i
/-- within the range over a tree's leaves -/
structure LvI (B : Nat) (w : World) (c6 c7 : Nat) (pre : List (Int × T)) (A6 A7 : Option Addr) (p6 p7 : Nat) (Y : Nat → Prop) (W : World) : Prop where
  k6 : Blk W c6 #[.slice A6 pre.length p6] 42
  k7 : Blk W c7 #[.slice A7 pre.length p7] 42
  o6 : Vx.Own W 3 1 (.slice A6 pre.length p6) pre.length ((ids pre).map iV)
  o7 : Vx.Own W 3 1 (.slice A7 pre.length p7) pre.length (pre.map fun p => iV p.1)
  ny : ¬ Y c6 ∧ ¬ Y c7
  n6 : ∀ k, (Value.slice A6 pre.length p6).ownBlock = some k → ¬ Y k ∧ B ≤ k
  n7 : ∀ k, (Value.slice A7 pre.length p7).ownBlock = some k → ¬ Y k ∧ B ≤ k
  dj : ∀ k, (Value.slice A6 pre.length p6).ownBlock = some k → (Value.slice A7 pre.length p7).ownBlock ≠ some k
  low : B ≤ c6 ∧ B ≤ c7
  chg : Chg (fun b => B ≤ b) w W
def lvI (B : Nat) (w : World) (c6 c7 : Nat) (pre : List (Int × T)) (Y : Nat → Prop) (W : World) : Prop := ∃ A6 A7 p6 p7, LvI B w c6 c7 pre A6 A7 p6 p7 Y W
theorem lvI_stab {B : Nat} {w : World} {c6 c7 : Nat} : Stab B (lvI B w c6 c7) := by
  rintro pre Y W Y2 W2 hY ⟨A6, A7, p6, p7, h⟩ hc hY2
  have hn : ∀ b, b < W.heap.size → ¬ Y b → ¬ Y2 b := fun b hb hy h2 => (hY2 b h2).elim hy fun h3 => by omega
  exact ⟨A6, A7, p6, p7, h.k6.keep hc h.ny.1, h.k7.keep hc h.ny.2, h.o6.keep hc fun k hk => (h.n6 k hk).1, h.o7.keep hc fun k hk => (h.n7 k hk).1, ⟨hn _ h.k6.lt h.ny.1, hn _ h.k7.lt h.ny.2⟩,
    fun k hk => ⟨hn k (h.o6.lt k hk) (h.n6 k hk).1, (h.n6 k hk).2⟩, fun k hk => ⟨hn k (h.o7.lt k hk) (h.n7 k hk).1, (h.n7 k hk).2⟩, h.dj, h.low, Chg.trans h.chg hc fun b hb _ => (hY b hb).1⟩
theorem posL_bg (m : List T) : ∀ n, n ≤ m.length → ((posL 0 m).take n).map (fun p => iV p.1) = bgC m n
  | 0, _ => rfl
  | n + 1, h => by
    obtain ⟨u, hu⟩ := get_ex (l := m) (i := n) (by omega)
    have h1 := posL_get (a := 0) hu
    rw [take_succ' h1, List.map_append, posL_bg m n (by omega), bgC_succ]
    simp
theorem leafI_bg {t : T} (h : WF t) : (leafI t).map (fun p => iV p.1) = bgC (rl t) (rl t).length := by
  rw [leafI_pos h, ← posL_bg (rl t) (rl t).length (Nat.le_refl _), List.take_of_length_le (by rw [posL_len]; exact Nat.le_refl _)]
theorem leafI_id2 {t : T} (h : WF t) : ids (leafI t) = (rl t).map T.id := leafI_ids h rfl
/-- results, each in a cell of its own -/
def RVS (P : Program) (n : Nat) (f : Nat → Value) (w : World) : List (Nat × TypeId) → List Value → Prop
  | [], [] => True
  | (a, t) :: r, v :: vs => (a < n ∧ ∃ b o, f a = .pointer (some ⟨b, o, none⟩) ∧ isAggT P t = some false ∧ w.cell? ⟨b, o, none⟩ = some v) ∧ RVS P n f w r vs
  | _, _ => False
theorem run_resultsS {P : Program} {n : Nat} {f : Nat → Value} {w : World} : ∀ (rs : List (Nat × TypeId)) (vs : List Value), RVS P n f w rs vs → ((rs.map fun p => ResultVar.cell p.1 p.2).mapM (readR n f) : Sem (List Value)).run P w = .ok vs w
  | [], [], _ => by simp
  | (a, t) :: r, v :: vs, h => by
    obtain ⟨⟨ha, b, o, hp, hagg, hc⟩, h⟩ := h
    have hg : (fr n f []).tmps.getD a undef = .pointer (some ⟨b, o, none⟩) := by rw [Array.getD_eq_getD_getElem?, fr_get]; simp [ha, hp]
    have hv : (loadVar t ⟨b, o, none⟩).run P w = .ok v w := by
      simp [loadVar, Sem.run_bind, run_isAgg hagg, Result.andThen, load, Sem.run, hc]
    have ih := run_resultsS r vs h
    simp only [List.map_cons, List.mapM_cons, readR, hg, Sem.run_bind, asAddr, Sem.run_pure, Result.andThen, hv, ih]
  | [], _ :: _, h => h.elim
  | _ :: _, [], h => h.elim
theorem leaves_cells {P : Program} {fn : Func} {n : Nat} {f : Nat → Value} {K : Value → World → Prop} {w : World} {rs : List (Nat × TypeId)} {vs : List Value} (hr : fn.results = (rs.map fun p => ResultVar.cell p.1 p.2).toArray) (h : RVS P n f w rs vs) (hk : K (one vs) w) : leaves P fn n f K [] w := by
  refine ⟨one vs, ?_, hk⟩
  have h1 := run_resultsS rs vs h
  have h2 : ((rs.map fun p => ResultVar.cell p.1 p.2).toArray.mapM (readR n f) : Sem (Array Value)).run P w = .ok vs.toArray w := by
    rw [Array.mapM_eq_mapM_toList]
    show (((rs.map fun p => ResultVar.cell p.1 p.2).mapM (readR n f) : Sem (List Value)) >>= fun l => pure l.toArray : Sem (Array Value)).run P w = _
    rw [Sem.run_bind, h1]; simp [Result.andThen]
  have h3 : (results fn (fr n f []).tmps).run P w = (do let vs ← ((rs.map fun p => ResultVar.cell p.1 p.2).toArray.mapM (readR n f) : Sem (Array Value)); pure (if h : vs.size = 1 then vs[0] else .tuple vs) : Sem Value).run P w := by
    unfold results
    rw [hr]
    rfl
  rw [h3, Sem.run_bind, h2]
  cases vs with
  | nil => simp [one, Result.andThen]
  | cons v vs => cases vs <;> simp [one, Result.andThen]

/-- within a range whose spans are appended to what lies in nb -/
structure SpJ (w : World) (nb : Nat) (pre : List Sn) (A : Option Addr) (c : Nat) (Y : Nat → Prop) (W : World) : Prop where
  blk : Blk W nb #[.slice A pre.length c] 76
  own : Vx.Own W 79 2 (.slice A pre.length c) pre.length (snC pre)
  yl : ∀ b, Y b → w.heap.size ≤ b
  no : ∀ k, (Value.slice A pre.length c).ownBlock = some k → ¬ Y k ∧ w.heap.size ≤ k
  chg : Chg1 nb w W
def spJ (w : World) (nb : Nat) (pre : List Sn) (Y : Nat → Prop) (W : World) : Prop := ∃ A c, SpJ w nb pre A c Y W
theorem spJ_stab {B : Nat} {w : World} {nb : Nat} (hnb : nb < w.heap.size) : Stab B (spJ w nb) := by
  rintro pre Y W Y2 W2 hY ⟨A, c, h⟩ hc hY2
  refine ⟨A, c, h.blk.keep hc fun hy => by have := h.yl _ hy; omega, h.own.keep hc fun k hk => (h.no k hk).1, fun b hb => (hY2 b hb).elim (h.yl b) fun h2 => by have := h.chg.size; omega,
    fun k hk => ⟨fun h2 => (hY2 k h2).elim (h.no k hk).1 fun h3 => by have := h.own.lt k hk; omega, (h.no k hk).2⟩, Chg.trans h.chg hc fun b hb hl => absurd hl (by have := h.yl b hb; omega)⟩
/-- what the law holds at hunk number k; behind the last one a hunk of nothing stands at the ends -/
def gapAt (l m : List Int) (H : List Hk) (k : Nat) (fr into : Int) : Prop :=
  (k ≤ H.length ∧ gapOk l m false (decide (k = 0)) fr into (H.drop k) (l.length : Nat) (m.length : Nat)) ∨ (k = H.length + 1 ∧ fr = (l.length : Nat) ∧ into = (m.length : Nat))
structure GapX (l m : List Int) (H : List Hk) (k : Nat) (fr into : Int) (h : Hk) : Prop where
  run : Run l m fr into h.frm h.into
  bd : h.frm ≤ h.to ∧ h.into ≤ h.upto ∧ h.to ≤ (l.length : Nat) ∧ h.upto ≤ (m.length : Nat)
  next : gapAt l m H (k + 1) h.to h.upto
theorem gap_real {l m : List Int} {H : List Hk} {k : Nat} {fr into : Int} {h : Hk} (hg : gapAt l m H k fr into) (hh : H[k]? = some h) : GapX l m H k fr into h ∧ (h.frm < h.to ∨ h.into < h.upto) ∧ (0 < k → fr < h.frm) := by
  have hk := get_len hh
  rcases hg with ⟨h1, h2⟩ | ⟨h1, _⟩
  · rw [drop_get hh] at h2
    obtain ⟨h3, h4, h5, h6, h7⟩ := h2
    exact ⟨⟨h3, h4, .inl ⟨by omega, by rw [decide_eq_false (by omega)]; exact h7⟩⟩, h5, fun hk0 => h6 (decide_eq_false (by omega))⟩
  · omega
theorem gap_last {l m : List Int} {H : List Hk} {k : Nat} {fr into : Int} (hg : gapAt l m H k fr into) (hk : k = H.length) : GapX l m H k fr into ⟨(l.length : Nat), (l.length : Nat), (m.length : Nat), (m.length : Nat)⟩ := by
  rcases hg with ⟨h1, h2⟩ | ⟨h1, _⟩
  · rw [List.drop_eq_nil_of_le (by omega)] at h2
    exact ⟨h2.1, ⟨Int.le_refl _, Int.le_refl _, Int.le_refl _, Int.le_refl _⟩, .inr ⟨by omega, rfl, rfl⟩⟩
  · omega
theorem gap_start (l m : List Int) : gapAt l m (hunks l m) 0 0 0 := .inl ⟨Nat.zero_le _, gapOk_hunks l m⟩
theorem gap_end {l m : List Int} {H : List Hk} {k : Nat} {fr into : Int} (hg : gapAt l m H k fr into) (hk : H.length < k) : fr = (l.length : Nat) ∧ into = (m.length : Nat) := by
  rcases hg with ⟨h1, _⟩ | ⟨_, h2⟩
  · omega
  · exact h2
theorem Own.atI {w : World} {e : TypeId} {g n cap : Nat} {xs : List Int} {i : Int} {x : Int} (h : Vx.Own w e 1 (.slice (some ⟨g, 0, none⟩) n cap) n (xs.map iV)) (hx : xs[i.toNat]? = some x) : w.cell? ⟨g, 0 + i.toNat * 1, none⟩ = some (iV x) := by
  rw [show 0 + i.toNat * 1 = i.toNat by omega]; exact Own.at1 h (by simp [hx])
end Go.Proofs.Ythhbnodnpajljaa
