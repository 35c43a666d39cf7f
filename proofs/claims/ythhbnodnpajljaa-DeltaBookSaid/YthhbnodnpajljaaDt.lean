/-
  Trees as data (with the numbers of the blocks in which their nodes lie), and how a tree.Node lies in memory. No conditions.
-/
import Derived.Test.YthhbnodnpajljaaVxg
set_option linter.unusedVariables false
set_option linter.unusedSimpArgs false
namespace Go.Proofs.Ythhbnodnpajljaa
open Go Go.RowKit Go.Vx

structure Lf where
  kind : Int
  skip : Int
  len : Int
  reach : Int
deriving DecidableEq

/-- b: the node's block; ka, kc: the block of its children's row, and that slice's capacity -/
inductive T where
  | mk (b : Nat) (ka : Option Nat) (kc : Nat) (id kind n : Int) (lf : Lf) (kids : List T)

namespace T
def b : T → Nat | mk b _ _ _ _ _ _ _ => b
def ka : T → Option Nat | mk _ a _ _ _ _ _ _ => a
def kc : T → Nat | mk _ _ c _ _ _ _ _ => c
def id : T → Int | mk _ _ _ i _ _ _ _ => i
def kind : T → Int | mk _ _ _ _ k _ _ _ => k
def n : T → Int | mk _ _ _ _ _ n _ _ => n
def lf : T → Lf | mk _ _ _ _ _ _ l _ => l
def kids : T → List T | mk _ _ _ _ _ _ _ k => k
def ptr (t : T) : Value := .pointer (some ⟨t.b, 0, none⟩)
end T

def byt (x : Int) : Int := if x < 0 ∨ 262144 < x then 0 else x
def lfw (l : Lf) : Int := byt l.skip + byt l.len
theorem byt_bd (x : Int) : 0 ≤ byt x ∧ byt x ≤ 262144 := by unfold byt; split <;> omega
theorem lfw_bd (l : Lf) : 0 ≤ lfw l ∧ lfw l ≤ 524288 := by unfold lfw; have := byt_bd l.skip; have := byt_bd l.len; omega

mutual
/-- width, leaves, rows, failed -/
def wd : T → Int
  | .mk _ _ _ _ kind _ lf kids => if kind = 1 then lfw lf else wdL kids
def wdL : List T → Int
  | [] => 0
  | t :: r => wd t + wdL r
end
mutual
def lc : T → Int
  | .mk _ _ _ _ kind _ _ kids => if kind = 1 then 1 else lcL kids
def lcL : List T → Int
  | [] => 0
  | t :: r => lc t + lcL r
end
mutual
def sz : T → Int
  | .mk _ _ _ _ _ _ _ kids => 1 + szL kids
def szL : List T → Int
  | [] => 0
  | t :: r => sz t + szL r
end
mutual
def fl : T → Bool
  | .mk _ _ _ _ kind n _ kids => if kind = 1 then decide (n = -1) else (decide (kind = 3) || decide (kind = 5)) || flL kids
def flL : List T → Bool
  | [] => false
  | t :: r => fl t || flL r
end
mutual
def blocks : T → List Nat
  | .mk b ka _ _ _ _ _ kids => b :: (ka.toList ++ blocksL kids)
def blocksL : List T → List Nat
  | [] => []
  | t :: r => blocks t ++ blocksL r
end
mutual
/-- a leaf has no children; the other kinds -/
def WF : T → Prop
  | .mk _ _ _ _ kind n lf kids => (kind = 1 → kids = [] ∧ n = lf.kind) ∧ (kind ≠ 1 → 2 ≤ kind ∧ kind ≤ 5) ∧ WFL kids
def WFL : List T → Prop
  | [] => True
  | t :: r => WF t ∧ WFL r
end
mutual
theorem sz_pos : ∀ t : T, 1 ≤ sz t
  | .mk _ _ _ _ _ _ _ kids => by have := szL_nonneg kids; simp only [sz]; omega
theorem szL_nonneg : ∀ l : List T, 0 ≤ szL l
  | [] => by simp [szL]
  | t :: r => by have := sz_pos t; have := szL_nonneg r; simp only [szL]; omega
end
mutual
theorem wd_bd : ∀ t : T, 0 ≤ wd t ∧ wd t ≤ 524288 * sz t
  | .mk _ _ _ _ kind _ lf kids => by
    have := wdL_bd kids; have := lfw_bd lf; have := szL_nonneg kids
    simp only [wd, sz]; split <;> omega
theorem wdL_bd : ∀ l : List T, 0 ≤ wdL l ∧ wdL l ≤ 524288 * szL l
  | [] => by simp [wdL, szL]
  | t :: r => by have := wd_bd t; have := wdL_bd r; simp only [wdL, szL]; omega
end
mutual
theorem lc_bd : ∀ t : T, 0 ≤ lc t ∧ lc t ≤ sz t
  | .mk _ _ _ _ kind _ lf kids => by
    have := lcL_bd kids; have := szL_nonneg kids
    simp only [lc, sz]; split <;> omega
theorem lcL_bd : ∀ l : List T, 0 ≤ lcL l ∧ lcL l ≤ szL l
  | [] => by simp [lcL, szL]
  | t :: r => by have := lc_bd t; have := lcL_bd r; simp only [lcL, szL]; omega
end
theorem WFL_mem : ∀ {l : List T} {t : T}, WFL l → t ∈ l → WF t
  | _ :: _, _, h, .head _ => h.1
  | _ :: _, _, h, .tail _ hm => WFL_mem h.2 hm
theorem blocksL_mem : ∀ {l : List T} {t : T} {x : Nat}, t ∈ l → x ∈ blocks t → x ∈ blocksL l
  | _ :: _, _, _, .head _, hx => List.mem_append_left _ hx
  | _ :: _, _, _, .tail _ hm, hx => List.mem_append_right _ (blocksL_mem hm hx)
theorem szL_mem : ∀ {l : List T} {t : T}, t ∈ l → sz t ≤ szL l
  | _ :: r, _, .head _ => by have := szL_nonneg r; simp only [szL]; omega
  | t :: r, _, .tail _ hm => by have := szL_mem hm; have := sz_pos t; simp only [szL]; omega
theorem szL_append : ∀ (l r : List T), szL (l ++ r) = szL l + szL r
  | [], r => by simp [szL]
  | t :: l, r => by simp only [List.cons_append, szL, szL_append l r]; omega
theorem wdL_append : ∀ (l r : List T), wdL (l ++ r) = wdL l + wdL r
  | [], r => by simp [wdL]
  | t :: l, r => by simp only [List.cons_append, wdL, wdL_append l r]; omega
theorem szL_len : ∀ l : List T, (l.length : Int) ≤ szL l
  | [] => by simp [szL]
  | t :: r => by have := sz_pos t; have := szL_len r; simp only [List.length_cons, szL]; omega

/-! ### tree.Node in memory -/
def kidsV (ka : Option Nat) (n c : Nat) : Value := .slice (ka.map fun k => ⟨k, 0, none⟩) n c
def nodeC (st : Value) (t : T) : Array Value :=
  #[st, .int .i64 t.id, .int .i64 t.kind, .int .i64 t.n, .int .i64 t.lf.kind, .int .i64 t.lf.skip, .int .i64 t.lf.len, .int .i64 t.lf.reach, kidsV t.ka t.kids.length t.kc,
    .int .i64 (wd t), .int .i64 (lc t), .int .i64 (sz t), .bool (fl t)]
def rowAt (w : World) (ka : Option Nat) (kids : List T) : Prop :=
  match ka with
  | none => kids = []
  | some k => ∃ cur, Blk w k cur 36 ∧ cur.toList.take kids.length = kids.map T.ptr
mutual
def PN (st : Value) (w : World) : T → Prop
  | .mk b ka kc id kind n lf kids => Blk w b (nodeC st (.mk b ka kc id kind n lf kids)) 124 ∧ kids.length ≤ kc ∧ rowAt w ka kids ∧ PNL st w kids
def PNL (st : Value) (w : World) : List T → Prop
  | [] => True
  | t :: r => PN st w t ∧ PNL st w r
end
theorem PNL_mem {st : Value} {w : World} : ∀ {l : List T} {t : T}, PNL st w l → t ∈ l → PN st w t
  | _ :: _, _, h, .head _ => h.1
  | _ :: _, _, h, .tail _ hm => PNL_mem h.2 hm
theorem rowAt.keep {K : Nat → Prop} {w w' : World} {ka : Option Nat} {kids : List T} (h : rowAt w ka kids) (c : Chg K w w') (hk : ∀ x ∈ ka.toList, ¬ K x) : rowAt w' ka kids := by
  cases ka with
  | none => exact h
  | some k => obtain ⟨cur, hb, ht⟩ := h; exact ⟨cur, hb.keep c (hk k (by simp)), ht⟩
mutual
theorem PN.keep {st : Value} {K : Nat → Prop} {w w' : World} (c : Chg K w w') : ∀ {t : T}, PN st w t → (∀ x ∈ blocks t, ¬ K x) → PN st w' t
  | .mk b ka kc id kind n lf kids, h, hk => by
    simp only [PN] at h ⊢
    simp only [blocks, List.mem_cons, List.mem_append] at hk
    exact ⟨h.1.keep c (hk b (.inl rfl)), h.2.1, h.2.2.1.keep c fun x hx => hk x (.inr (.inl hx)), PNL.keep c h.2.2.2 fun x hx => hk x (.inr (.inr hx))⟩
theorem PNL.keep {st : Value} {K : Nat → Prop} {w w' : World} (c : Chg K w w') : ∀ {l : List T}, PNL st w l → (∀ x ∈ blocksL l, ¬ K x) → PNL st w' l
  | [], _, _ => trivial
  | t :: r, h, hk => ⟨PN.keep c h.1 fun x hx => hk x (List.mem_append_left _ hx), PNL.keep c h.2 fun x hx => hk x (List.mem_append_right _ hx)⟩
end
theorem PN.ext {st : Value} {w w' : World} {t : T} (h : PN st w t) (c : Ext w w') : PN st w' t := PN.keep c h fun _ _ => not_false
theorem PNL.ext {st : Value} {w w' : World} {t : List T} (h : PNL st w t) (c : Ext w w') : PNL st w' t := PNL.keep c h fun _ _ => not_false
theorem PN.blk {st : Value} {w : World} {t : T} (h : PN st w t) : Blk w t.b (nodeC st t) 124 := by cases t; simp only [PN] at h; exact h.1
theorem PN.cap {st : Value} {w : World} {t : T} (h : PN st w t) : t.kids.length ≤ t.kc := by cases t; simp only [PN] at h; exact h.2.1
theorem PN.row {st : Value} {w : World} {t : T} (h : PN st w t) : rowAt w t.ka t.kids := by cases t; simp only [PN] at h; exact h.2.2.1
theorem PN.kids {st : Value} {w : World} {t : T} (h : PN st w t) : PNL st w t.kids := by cases t; simp only [PN] at h; exact h.2.2.2
mutual
theorem PN.lt {st : Value} {w : World} : ∀ {t : T}, PN st w t → ∀ x ∈ blocks t, x < w.heap.size
  | .mk b ka kc id kind n lf kids, h => by
    simp only [PN] at h
    simp only [blocks, List.mem_cons, List.mem_append]
    rintro x (rfl | hx | hx)
    · exact h.1.lt
    · cases ka with
      | none => simp at hx
      | some k =>
        obtain ⟨cur, hb, _⟩ := h.2.2.1
        simp at hx; subst hx; exact hb.lt
    · exact PNL.lt h.2.2.2 x hx
theorem PNL.lt {st : Value} {w : World} : ∀ {l : List T}, PNL st w l → ∀ x ∈ blocksL l, x < w.heap.size
  | [], _ => by simp [blocksL]
  | t :: r, h => by
    simp only [blocksL, List.mem_append]
    rintro x (hx | hx)
    · exact PN.lt h.1 x hx
    · exact PNL.lt h.2 x hx
end
theorem blocks_b (t : T) : t.b ∈ blocks t := by cases t; simp [blocks, T.b]
theorem blocks_ka {t : T} {k : Nat} (h : t.ka = some k) : k ∈ blocks t := by cases t; simp only [T.ka] at h; subst h; simp [blocks]
theorem blocks_kids {t k : T} (h : k ∈ t.kids) {x : Nat} (hx : x ∈ blocks k) : x ∈ blocks t := by
  cases t; simp only [T.kids] at h
  simp only [blocks, List.mem_cons, List.mem_append]
  exact .inr (.inr (blocksL_mem h hx))
/-- the i-th child's cell -/
theorem PN.kid {st : Value} {w : World} {t : T} (h : PN st w t) {k : Nat} (hk : t.ka = some k) {i : Nat} {u : T} (hi : t.kids[i]? = some u) : w.cell? ⟨k, i, none⟩ = some u.ptr := by
  have hr := h.row
  rw [hk] at hr
  obtain ⟨cur, hb, ht⟩ := hr
  refine hb.cell ?_
  have h1 : (t.kids.map T.ptr)[i]? = some u.ptr := by simp [hi]
  rw [← ht, List.getElem?_take] at h1
  split at h1
  · simpa using h1
  · cases h1
theorem PN.ka_some {st : Value} {w : World} {t : T} (h : PN st w t) (hk : t.kids ≠ []) : ∃ k, t.ka = some k := by
  have hr := h.row
  cases hka : t.ka with
  | none => rw [hka] at hr; exact absurd hr hk
  | some k => exact ⟨k, rfl⟩
end Go.Proofs.Ythhbnodnpajljaa
