/-
  Edits with their bytes, and copies of them, as they lie in memory. No conditions.
-/
import Derived.Test.YthhbnodnpajljaaDed
set_option linter.unusedVariables false
set_option linter.unusedSimpArgs false
namespace Go.Proofs.Ythhbnodnpajljaa
open Go Go.RowKit Go.Vx

/-- an edit and its bytes -/
structure EB where
  e : Ed
  bs : List UInt8
/-- the mark behind a list -/
abbrev edM : Ed := ⟨77, 0, none, 0, 0⟩
/-- it can be read: its bytes lie where its slice says -/
def EB.rd (w : World) (x : EB) : Prop := x.bs.length = x.e.n ∧ RowA w x.e.A (byC x.bs)
theorem EB.rd.ext {w w' : World} {x : EB} (h : x.rd w) (c : Ext w w') : x.rd w' := ⟨h.1, h.2.ext c⟩
theorem byC_len (l : List UInt8) : (byC l).length = l.length := by simp [byC]
theorem byC_one (l : List UInt8) : (byC l).all Value.oneCell' = true := by simp [byC, Value.oneCell']
/-- y is a copy of x in new memory, with a mark behind its bytes -/
structure Cpy (lo : Nat) (W : World) (x : EB) (y : Ed) : Prop where
  pl : y.pl = x.e.pl
  del : y.del = x.e.del
  n : y.n = x.e.n
  mem : ∃ g, y.A = some ⟨g, 0, none⟩ ∧ lo ≤ g ∧ y.n + 1 ≤ y.c ∧ Vx.Own W 5 1 (.slice (some ⟨g, 0, none⟩) (y.n + 1) y.c) (y.n + 1) (byC (x.bs ++ [165]))
theorem Cpy.keep {K : Nat → Prop} {lo : Nat} {W W' : World} {x : EB} {y : Ed} (h : Cpy lo W x y) (c : Chg K W W') (hk : ∀ g cur, Blk W g cur 5 → lo ≤ g → ¬ K g) : Cpy lo W' x y := by
  obtain ⟨g, hA, hl, hc, ho⟩ := h.mem
  obtain ⟨cur, hb, _⟩ := ho.toBlk
  exact ⟨h.pl, h.del, h.n, g, hA, hl, hc, ho.keep c fun k hk' => by simp [Value.ownBlock] at hk'; subst hk'; exact hk g cur hb hl⟩
theorem Cpy.ext {lo : Nat} {W W' : World} {x : EB} {y : Ed} (h : Cpy lo W x y) (c : Ext W W') : Cpy lo W' x y := h.keep c fun _ _ _ _ => not_false
/-- a row of copies -/
def CpyL (lo : Nat) (W : World) (xs : List EB) (ys : List Ed) : Prop := xs.length = ys.length ∧ ∀ (i : Nat) (x : EB) (y : Ed), xs[i]? = some x → ys[i]? = some y → Cpy lo W x y
theorem CpyL.keep {K : Nat → Prop} {lo : Nat} {W W' : World} {xs : List EB} {ys : List Ed} (h : CpyL lo W xs ys) (c : Chg K W W') (hk : ∀ g cur, Blk W g cur 5 → lo ≤ g → ¬ K g) : CpyL lo W' xs ys :=
  ⟨h.1, fun i x y hx hy => (h.2 i x y hx hy).keep c hk⟩
theorem CpyL.ext {lo : Nat} {W W' : World} {xs : List EB} {ys : List Ed} (h : CpyL lo W xs ys) (c : Ext W W') : CpyL lo W' xs ys := h.keep c fun _ _ _ _ => not_false
theorem CpyL.nil (lo : Nat) (W : World) : CpyL lo W [] [] := ⟨rfl, fun i x y h => by simp at h⟩
theorem CpyL.snoc {lo : Nat} {W : World} {xs : List EB} {ys : List Ed} {x : EB} {y : Ed} (h : CpyL lo W xs ys) (hc : Cpy lo W x y) : CpyL lo W (xs ++ [x]) (ys ++ [y]) := by
  refine ⟨by simp [h.1], fun i a b ha hb => ?_⟩
  rw [List.getElem?_append] at ha hb
  split at ha
  · rename_i hi; rw [if_pos (by rw [← h.1]; exact hi)] at hb; exact h.2 i a b ha hb
  · rename_i hi
    rw [if_neg (by rw [← h.1]; exact hi)] at hb
    rw [List.getElem?_singleton] at ha hb
    split at ha
    · rename_i h0; rw [if_pos (by rw [← h.1]; exact h0)] at hb; cases ha; cases hb; exact hc
    · cases ha
theorem edC_get : ∀ {l : List Ed} {i : Nat} {e : Ed}, l[i]? = some e → ∀ j v, e.cs[j]? = some v → (edC l)[i * 3 + j]? = some v
  | [], _, _, h, _, _, _ => by simp at h
  | x :: l, 0, e, h, j, v, hj => by
    simp at h; subst h
    have : j < 3 := by have := (List.getElem?_eq_some_iff.1 hj).1; simpa [Ed.cs] using this
    rw [edC, List.flatMap_cons, Nat.zero_mul, Nat.zero_add, List.getElem?_append_left (by simpa [Ed.cs] using this)]
    exact hj
  | x :: l, i + 1, e, h, j, v, hj => by
    have ih := edC_get (l := l) (i := i) (e := e) (by simpa using h) j v hj
    rw [edC, List.flatMap_cons, List.getElem?_append_right (by simp [Ed.cs]; omega)]
    simp only [Ed.cs, List.length_cons, List.length_nil]
    rw [show (i + 1) * 3 + j - (0 + 1 + 1 + 1) = i * 3 + j by omega]
    exact ih
/-- an edit of a row that is owned -/
theorem Own.ed {w : World} {g n cap : Nat} {l : List Ed} (h : Vx.Own w 59 3 (.slice (some ⟨g, 0, none⟩) n cap) n (edC l)) {i : Nat} {e : Ed} (hi : l[i]? = some e) : CellsL w g (i * 3) e.cs := h.cells (edC_get hi)
theorem Cpy.bytes {lo : Nat} {W : World} {x : EB} {y : Ed} (hl : x.bs.length = x.e.n) (h : Cpy lo W x y) : ∃ g, y.A = some ⟨g, 0, none⟩ ∧ x.e.n + 1 ≤ y.c ∧ RowA W (some ⟨g, 0, none⟩) (byC x.bs) ∧ W.cell? ⟨g, x.e.n, none⟩ = some (.int .u8 165) := by
  obtain ⟨g, hA, _, hc, ho⟩ := h.mem
  have hn := h.n
  rw [hn] at ho hc
  refine ⟨g, hA, hc, ⟨fun _ => rfl, ho.cells fun j v hj => ?_⟩, ?_⟩
  · rw [byC, List.map_append, Nat.zero_add, List.getElem?_append_left (by have := (List.getElem?_eq_some_iff.1 hj).1; simpa [byC] using this)]; exact hj
  · have h1 := ho.cells (o := x.e.n) (vs := [.int .u8 165]) fun j v hj => by
      cases j with
      | zero => simp at hj; subst hj; simp [byC, ← hl]
      | succ j => simp at hj
    exact h1.1
/-- copy onto a row that is owned, of as many elements -/
theorem ox_copyN {P : Program} {ρ : Operand → Value} {w : World} {K : Value → World → Prop} {dst : Option Tmp} {ty : TypeId} {pos : String} {af : Array Edge} {gd : Option (Nat × Bool)} {c : Call} {x y : Operand} {t e : TypeId} {sz by_ : Nat} {z : Value} {g n N cp cap gs os cp' : Nat} {xs cs : List Value}
    (hc : c = { callee := .builtin .copy, args := #[x, y], argTypes := #[t, t] }) (ht : sliceT P t = some (e, sz, by_, z)) (hx : ρ x = .slice (some ⟨g, 0, none⟩) n cp) (hy : ρ y = .slice (some ⟨gs, os, none⟩) n cp') (ho : Vx.Own w e sz (.slice (some ⟨g, 0, none⟩) N cap) N xs) (hN : n ≤ N)
    (hl : cs.length = n * sz) (hcs : CellsL w gs os cs) (h1 : cs.all Value.oneCell' = true) (h : ∀ w', Chg1 g w w' → w'.heap.size = w.heap.size → Vx.Own w' e sz (.slice (some ⟨g, 0, none⟩) N cap) N (setL xs 0 cs) → K (.int .i64 (n : Nat)) w') :
    OpX P ⟨dst, .call c, ty, pos, af, gd⟩ ρ w K := by
  subst hc
  obtain ⟨hu, i, hi, hz, hs, hby⟩ := slice_of ht
  obtain ⟨cur, hb, hz2, hup⟩ := ho.toBlk
  have hle : n * sz ≤ N * sz := Nat.mul_le_mul_right _ hN
  obtain ⟨w', hr, hch, hsz, hb'⟩ := Vx.run_storeCells (P := P) cs 0 0 w cur hb (by omega) (by simpa using h1)
  have hld := Vx.run_loadCells (P := P) cs os 0 #[] hcs
  rw [hl] at hld
  refine ox_val (v := .int .i64 (n : Nat)) (w' := w') ?_ (h w' hch hsz (hup cs 0 w' (by omega) hb'))
  simp [execOp, resolve, invoke, builtin, Builtin.copy_, hx, hy, Sem.run_bind, Result.andThen, run_underlying hu, Builtin.lenOf, Builtin.firstCells, sizeOf, typeInfo, hi, hs, loadCells, hld, hr, goInt]
theorem setL_app {α : Type} : ∀ (c a b p : List α), a.length = c.length → setL (p ++ a ++ b) p.length c = p ++ c ++ b
  | [], a, b, p, h => by
    have : a = [] := List.eq_nil_of_length_eq_zero h
    subst this; rfl
  | v :: c, [], b, p, h => by simp at h
  | v :: c, u :: a, b, p, h => by
    simp only [setL]
    have h1 : (p ++ u :: a ++ b).set p.length v = (p ++ [v]) ++ a ++ b := by simp
    rw [h1]
    have := setL_app c a b (p ++ [v]) (by simpa using h)
    rw [List.length_append, List.length_singleton] at this
    rw [this]; simp
theorem edC_len (l : List Ed) : (edC l).length = l.length * 3 := by
  induction l with
  | nil => rfl
  | cons e l ih => simp only [edC, List.flatMap_cons, List.length_append, List.length_cons] at ih ⊢; simp only [Ed.cs, List.length_cons, List.length_nil]; omega
theorem setL_edC (ys zs ms : List Ed) (h : ys.length = zs.length) : setL (edC (ys ++ ms)) 0 (edC zs) = edC (zs ++ ms) := by
  have := setL_app (edC zs) (edC ys) (edC ms) [] (by rw [edC_len, edC_len, h])
  simpa [edC, List.flatMap_append] using this
theorem edC_one (l : List Ed) : (edC l).all Value.oneCell' = true := by simp [edC, Ed.cs, Value.oneCell']
theorem CpyL.e3 {lo : Nat} {W : World} : ∀ {xs : List EB} {ys : List Ed}, CpyL lo W xs ys → ys.map Ed.e3 = (xs.map EB.e).map Ed.e3
  | [], [], _ => rfl
  | [], y :: ys, h => by have := h.1; simp at this
  | x :: xs, [], h => by have := h.1; simp at this
  | x :: xs, y :: ys, h => by
    have h0 := h.2 0 x y rfl rfl
    have ih := CpyL.e3 (xs := xs) (ys := ys) ⟨by have := h.1; simpa using this, fun i a b ha hb => h.2 (i + 1) a b (by simpa using ha) (by simpa using hb)⟩
    simp only [List.map_cons, ih]
    rw [Ed.e3, Ed.e3, h0.pl, h0.del, h0.n]
/-- what an owned row reads -/
theorem Own.rowA {w : World} {e : TypeId} {sz n cap g : Nat} {xs : List Value} (h : Vx.Own w e sz (.slice (some ⟨g, 0, none⟩) n cap) n xs) : RowA w (some ⟨g, 0, none⟩) xs := ⟨fun _ => rfl, h.cells fun j v hj => by simpa using hj⟩
theorem Own.rowO {w : World} {e : TypeId} {sz n cap : Nat} {A : Option Addr} {xs : List Value} (h : Vx.Own w e sz (.slice A n cap) n xs) : RowA w A xs := by
  rcases h.form with ⟨h1, h2, h3⟩ | ⟨g, cp, cur, h1, _⟩
  · simp only [Value.slice.injEq] at h1; rw [h1.1, h3]; rfl
  · simp only [Value.slice.injEq] at h1
    obtain ⟨rfl, _, rfl⟩ := h1
    exact Own.rowA h
theorem Own.front {w : World} {g n cap : Nat} {ys ms : List Ed} (h : Vx.Own w 59 3 (.slice (some ⟨g, 0, none⟩) (n + ms.length) cap) (n + ms.length) (edC (ys ++ ms))) (hn : ys.length = n) : RowA w (some ⟨g, 0, none⟩) (edC ys) := by
  refine ⟨fun _ => rfl, h.cells fun j v hj => ?_⟩
  rw [edC, List.flatMap_append, Nat.zero_add]
  exact (List.getElem?_append_left (get_len hj)).trans hj
end Go.Proofs.Ythhbnodnpajljaa
