/-
  The states of a walk over a tree, as the iterator's proof keeps them. No conditions.
-/
import Derived.Test.YthhbnodnpajljaaDu
import Derived.Test.YthhbnodnpajljaaDf
set_option linter.unusedVariables false
set_option linter.unusedSimpArgs false
namespace Go.Proofs.Ythhbnodnpajljaa
open Go Go.RowKit Go.Vx

abbrev sliV (A : Option Addr) (n cp : Nat) : Value := .slice A n cp
/-- at the label: what still lies on the stack, what has been told -/
structure WalkS (stv : Value) (root : T) (B : Nat) (J : List (Int × T) → (Nat → Prop) → World → Prop) (w : World) (a : Int) (st : List T) (pre : List (Int × T)) (X : Nat → Prop) (Ds : List Nat) (A : Option Addr) (cp sb : Nat) (W : World) : Prop where
  blk : Blk W sb #[.slice A st.length cp] 150
  own : Vx.Own W 36 1 (.slice A st.length cp) st.length (st.reverse.map T.ptr)
  xsb : X sb
  xown : ∀ k, (Value.slice A st.length cp).ownBlock = some k → X k
  nodup : Ds.Nodup
  marks : ∀ D ∈ Ds, X D ∧ W.heap[D]? = some (.deferred (some []))
  pn : PNL stv w st
  wf : WFL st
  low : ∀ b ∈ blocksL st, b < B
  lowA : 0 ≤ a ∧ a + wdL st ≤ wd root
  size : szL st ≤ sz root
  told : walkT 0 root = pre ++ walkL a st
  j : J pre X W
  bd : ∀ b, X b → B ≤ b ∧ b < W.heap.size
  chg : Chg (fun b => B ≤ b) w W
/-- within the range over a node's children -/
structure WalkI (B : Nat) (J : List (Int × T) → (Nat → Prop) → World → Prop) (w : World) (p : List (Int × T)) (base : List Value) (Ds : List Nat) (sb : Nat) (n : Nat) (ips : List Value) (X : Nat → Prop) (A : Option Addr) (cp : Nat) (Y : Nat → Prop) (W : World) : Prop where
  blk : Blk W sb #[.slice A n cp] 150
  own : Vx.Own W 36 1 (.slice A n cp) n (base ++ ips)
  xsb : X sb ∧ ¬ Y sb
  xown : ∀ k, (Value.slice A n cp).ownBlock = some k → X k ∧ ¬ Y k
  marks : ∀ D ∈ Ds, (X D ∧ ¬ Y D) ∧ W.heap[D]? = some (.deferred (some []))
  j : J p (fun b => X b ∨ Y b) W
  bd : ∀ b, X b → B ≤ b ∧ b < W.heap.size
  chg : Chg (fun b => B ≤ b) w W
def walkI (B : Nat) (J : List (Int × T) → (Nat → Prop) → World → Prop) (w : World) (p : List (Int × T)) (base : List Value) (Ds : List Nat) (sb : Nat) (ip : List (Nat × T)) (Y : Nat → Prop) (W : World) : Prop :=
  ∃ X A cp, WalkI B J w p base Ds sb (base.length + ip.length) (ip.map fun q => q.2.ptr) X A cp Y W
theorem walkI_stab {B : Nat} {J : List (Int × T) → (Nat → Prop) → World → Prop} {w : World} {p : List (Int × T)} {base : List Value} {Ds : List Nat} {sb : Nat} (hJ : Stab B J) : Stab B (walkI B J w p base Ds sb) := by
  rintro ip Y W Y2 W2 hY ⟨X, A, cp, h⟩ hc hY2
  have hn : ∀ b, X b → ¬ Y b → ¬ Y2 b := fun b hb hy h2 => (hY2 b h2).elim hy fun h3 => by have := (h.bd b hb).2; omega
  refine ⟨X, A, cp, h.blk.keep hc h.xsb.2, h.own.keep hc fun k hk => (h.xown k hk).2, ⟨h.xsb.1, hn _ h.xsb.1 h.xsb.2⟩, fun k hk => ⟨(h.xown k hk).1, hn _ (h.xown k hk).1 (h.xown k hk).2⟩,
    fun D hD => ⟨⟨(h.marks D hD).1.1, hn _ (h.marks D hD).1.1 (h.marks D hD).1.2⟩, (hc.keep D (h.bd D (h.marks D hD).1.1).2 (h.marks D hD).1.2).trans (h.marks D hD).2⟩, ?_, fun b hb => ⟨(h.bd b hb).1, by have := (h.bd b hb).2; have := hc.size; omega⟩, ?_⟩
  · exact hJ _ _ W _ W2 (fun b hb => hb.elim (h.bd b) (hY b)) h.j (hc.mono fun b _ hb => .inr hb) (fun b hb => hb.elim (fun h => .inl (.inl h)) fun h2 => (hY2 b h2).imp .inr id)
  · exact Chg.trans h.chg hc fun b hb _ => (hY b hb).1
theorem back_iter {B bx : Nat} {X : Nat → Prop} {A : Option Addr} {kids : List T} {cp : Nat} {w : World} (hb : Blk w bx #[.slice A kids.length cp] 28) (hA : RowA w A (kids.map T.ptr)) (hXb : X bx ∨ bx < B) (hXA : ∀ a, A = some a → X a.block ∨ a.block < B)
    (hX : ∀ b, X b → B ≤ b ∧ b < w.heap.size) (hn : kids.length ≤ 4194304) : Iter Try.prog 73 #[.pointer (some ⟨bx, 0, none⟩)] encB B X (backI kids) w :=
  Iter.mk (lb := [.pointer (some ⟨bx, 0, none⟩)]) fun l J Jx W hm hJ hJx hy h0 => back_calls l B bx X A kids cp J Jx W (hb.keep hm fun h => hXb.elim h.1 (by have := h.2; omega)) (hA.keep hm fun a ha h => (hXA a ha).elim h.1 (by have := h.2; omega))
    hXb hXA (fun b hb => ⟨(hX b hb).1, by have := (hX b hb).2; have := hm.size; omega⟩) hn hy h0
theorem rowA_of {w : World} {ka : Option Nat} {kids : List T} (h : rowAt w ka kids) : RowA w (ka.map fun k => ⟨k, 0, none⟩) (kids.map T.ptr) := by
  cases ka with
  | none => show kids.map T.ptr = []; rw [show kids = [] from h]; rfl
  | some k =>
    obtain ⟨cur, hb, ht⟩ := h
    refine ⟨fun _ => rfl, ?_⟩
    refine hb.cells fun j v hj => ?_
    rw [← ht, List.getElem?_take] at hj
    split at hj
    · simpa using hj
    · cases hj
mutual
/-- what is met on a walk lies in the tree -/
theorem walkT_mem : ∀ {t : T} {a : Int} {p : Int × T}, p ∈ walkT a t → (∀ st w, PN st w t → PN st w p.2) ∧ (∀ b ∈ blocks p.2, b ∈ blocks t) ∧ (WF t → WF p.2) ∧ sz p.2 ≤ sz t ∧ (WF t → a ≤ p.1 ∧ p.1 + wd p.2 ≤ a + wd t)
  | .mk b ka kc id kind n lf kids, a, p, h => by
    simp only [walkT, List.mem_cons] at h
    rcases h with rfl | h
    · exact ⟨fun _ _ h => h, fun _ h => h, fun h => h, Int.le_refl _, fun _ => ⟨Int.le_refl _, Int.le_refl _⟩⟩
    · obtain ⟨h1, h2, h3, h4, h5⟩ := walkL_mem h
      refine ⟨fun st w hp => ?_, fun b hb => ?_, fun hw => ?_, ?_, fun hw => ?_⟩
      · simp only [PN] at hp; exact h1 st w hp.2.2.2
      · simp only [blocks, List.mem_cons, List.mem_append]; exact .inr (.inr (h2 b hb))
      · simp only [WF] at hw; exact h3 hw.2.2
      · simp only [sz]; omega
      · simp only [WF] at hw
        have h6 := h5 hw.2.2
        by_cases hk : kind = 1
        · rw [(hw.1 hk).1] at h; simp [walkL] at h
        · rw [if_neg hk] at h6; simp only [wd, if_neg hk]; exact h6
theorem walkL_mem : ∀ {l : List T} {a : Int} {p : Int × T}, p ∈ walkL a l → (∀ st w, PNL st w l → PN st w p.2) ∧ (∀ b ∈ blocks p.2, b ∈ blocksL l) ∧ (WFL l → WF p.2) ∧ sz p.2 ≤ szL l ∧ (WFL l → a ≤ p.1 ∧ p.1 + wd p.2 ≤ a + wdL l)
  | [], _, _, h => by simp [walkL] at h
  | t :: r, a, p, h => by
    have hz := szL_nonneg r; have hz2 := sz_pos t; have hw1 := wd_bd t; have hw2 := wdL_bd r
    simp only [walkL, List.mem_append] at h
    rcases h with h | h
    · obtain ⟨h1, h2, h3, h4, h5⟩ := walkT_mem h
      exact ⟨fun st w hp => h1 st w hp.1, fun b hb => List.mem_append_left _ (h2 b hb), fun hw => h3 hw.1, by simp only [szL]; omega, fun hw => by have := h5 hw.1; simp only [wdL]; omega⟩
    · obtain ⟨h1, h2, h3, h4, h5⟩ := walkL_mem h
      exact ⟨fun st w hp => h1 st w hp.2, fun b hb => List.mem_append_right _ (h2 b hb), fun hw => h3 hw.2, by simp only [szL]; omega, fun hw => by have := h5 hw.2; simp only [wdL]; omega⟩
end
def isLeaf (p : Int × T) : Bool := decide (p.2.kind = 1)
/-- what Leaves tells -/
def leafI (root : T) : List (Int × T) := (walkT 0 root).filter isLeaf
/-- within Leaves' range over Walk -/
structure LeafI (root : T) (B : Nat) (J : List (Int × T) → (Nat → Prop) → World → Prop) (w : World) (l : Nat) (X0 : Nat → Prop) (yb : Nat) (pre : List (Int × T)) (Y : Nat → Prop) (W : World) : Prop where
  j : J (pre.filter isLeaf) (fun b => (X0 b ∨ b = yb) ∨ Y b) W
  ny : ¬ Y yb
  blk : Blk W yb #[.func (.yield l) #[] #[]] 149
  bd : ∀ b, (X0 b ∨ b = yb) → B ≤ b ∧ b < W.heap.size
  chg : Chg (fun b => B ≤ b) w W
structure LeafX (B : Nat) (Jx : List (Int × T) → (Nat → Prop) → World → Prop) (X0 : Nat → Prop) (yb : Nat) (c : Code) (pre : List (Int × T)) (Y : Nat → Prop) (W : World) : Prop where
  c : c = .ret
  j : Jx (pre.filter isLeaf) (fun b => (X0 b ∨ b = yb) ∨ Y b) W
  bd : ∀ b, (X0 b ∨ b = yb) → B ≤ b ∧ b < W.heap.size
theorem leafI_stab {root : T} {B : Nat} {J : List (Int × T) → (Nat → Prop) → World → Prop} {w : World} {l : Nat} {X0 : Nat → Prop} {yb : Nat} (hJ : Stab B J) : Stab B (LeafI root B J w l X0 yb) := by
  intro pre Y W Y2 W2 hY h hc hY2
  have hyb := h.bd yb (.inr rfl)
  exact ⟨hJ _ _ W _ W2 (fun b hb => hb.elim (h.bd b) (hY b)) h.j (hc.mono fun b _ hb => .inr hb) (fun b hb => hb.elim (fun h => .inl (.inl h)) fun h2 => (hY2 b h2).imp .inr id),
    fun h2 => (hY2 _ h2).elim h.ny fun h3 => by omega, h.blk.keep hc h.ny, fun b hb => ⟨(h.bd b hb).1, by have := (h.bd b hb).2; have := hc.size; omega⟩, Chg.trans h.chg hc fun b hb _ => (hY b hb).1⟩
theorem leafX_stab {B : Nat} {Jx : List (Int × T) → (Nat → Prop) → World → Prop} {X0 : Nat → Prop} {yb : Nat} (hJ : Stab B Jx) (c : Code) : Stab B (LeafX B Jx X0 yb c) := by
  intro pre Y W Y2 W2 hY h hc hY2
  exact ⟨h.c, hJ _ _ W _ W2 (fun b hb => hb.elim (h.bd b) (hY b)) h.j (hc.mono fun b _ hb => .inr hb) (fun b hb => hb.elim (fun h => .inl (.inl h)) fun h2 => (hY2 b h2).imp .inr id),
    fun b hb => ⟨(h.bd b hb).1, by have := (h.bd b hb).2; have := hc.size; omega⟩⟩
end Go.Proofs.Ythhbnodnpajljaa
