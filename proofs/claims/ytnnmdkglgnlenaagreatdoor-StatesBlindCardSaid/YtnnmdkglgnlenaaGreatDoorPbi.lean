/-
  Part 9 of the proof: texts Sp Tr Sv Sa. No conditions.
-/
import Derived.Test.YtnnmdkglgnlenaaGreatDoorRows
import Derived.Test.YtnnmdkglgnlenaaGreatDoorPbf
import Derived.Test.YtnnmdkglgnlenaaGreatDoorPbg
import Derived.Test.YtnnmdkglgnlenaaGreatDoorPbh
set_option linter.unusedVariables false
set_option linter.unusedSimpArgs false
set_option maxRecDepth 100000
set_option maxHeartbeats 4000000
namespace Go.Proofs.YtnnmdkglgnlenaaGreatDoor
open Go Go.RowKit Go.Vx
mutual
/-- is a pattern copied outright, with v parts left, at depth d? and what is left behind it -/
def ownB : EX → Int → Int → Bool × Int
  | .mk _ _ _ _ _ _ _ l, d, v => if v - 1 < 0 ∨ 64 < d then (false, v - 1) else ownBL l (d + 1) (v - 1)
def ownBL : List EX → Int → Int → Bool × Int
  | [], _, v => (true, v)
  | x :: r, d, v => if (ownB x d v).1 = true then ownBL r d (ownB x d v).2 else (false, (ownB x d v).2)
end
theorem ownB_no {e : EX} {d v : Int} (h : v - 1 < 0 ∨ 64 < d) : ownB e d v = (false, v - 1) := by
  cases e; rw [ownB, if_pos h]
theorem ownB_yes {e : EX} {d v : Int} (h : ¬ (v - 1 < 0 ∨ 64 < d)) : ownB e d v = ownBL e.list (d + 1) (v - 1) := by
  cases e; rw [ownB, if_neg h]; rfl
theorem ownBL_next {l : List EX} {i : Nat} {x : EX} {d v : Int} (hx : l[i]? = some x) (h : (ownB x d v).1 = true) : ownBL (l.drop i) d v = ownBL (l.drop (i + 1)) d (ownB x d v).2 := by
  rw [drop_get hx, ownBL, if_pos h]
theorem ownBL_bad {l : List EX} {i : Nat} {x : EX} {d v : Int} (hx : l[i]? = some x) (h : (ownB x d v).1 = false) : ownBL (l.drop i) d v = (false, (ownB x d v).2) := by
  rw [drop_get hx, ownBL, if_neg (by rw [h]; decide)]
mutual
theorem ownB_bd : ∀ (e : EX) (d v : Int), (ownB e d v).1 = true → 0 ≤ v → 0 ≤ (ownB e d v).2 ∧ (ownB e d v).2 ≤ v
  | .mk _ _ _ _ _ _ _ l, d, v, h, hv => by
    rw [ownB] at h ⊢
    split at h
    · cases h
    · rename_i hn
      rw [if_neg hn]
      have := ownBL_bd l (d + 1) (v - 1) h (by omega)
      omega
theorem ownBL_bd : ∀ (l : List EX) (d v : Int), (ownBL l d v).1 = true → 0 ≤ v → 0 ≤ (ownBL l d v).2 ∧ (ownBL l d v).2 ≤ v
  | [], _, v, _, hv => ⟨hv, Int.le_refl _⟩
  | x :: r, d, v, h, hv => by
    rw [ownBL] at h ⊢
    split at h
    · rename_i hx
      rw [if_pos hx]
      have h1 := ownB_bd x d v hx hv
      have h2 := ownBL_bd r d _ h h1.1
      omega
    · cases h
end
theorem drop_get0 {α : Type} {l m : List α} {i : Nat} (h : l.drop i = m.drop i) : l[i]? = m[i]? := by
  have h1 : (l.drop i)[0]? = (m.drop i)[0]? := by rw [h]
  rwa [List.getElem?_drop, List.getElem?_drop, Nat.add_zero] at h1
theorem drop_set {α : Type} {l m : List α} {i : Nat} {y : α} (h : l.drop i = m.drop i) : (l.set i y).drop (i + 1) = m.drop (i + 1) := by
  rw [List.drop_set_of_lt (by omega), ← List.drop_drop, ← List.drop_drop, h]
mutual
/-- e' is e, copied into memory from block B on -/
def CpX (B : Nat) (w : World) : EX → EX → Prop
  | .mk k a b m n A _ l, e' => (e'.kind = k ∧ e'.frm = a ∧ e'.to = b ∧ e'.min = m ∧ e'.max = n) ∧ (A = none ↔ e'.A = none) ∧ RowA w e'.A (e'.list.flatMap EX.cs) ∧ (∀ a, e'.A = some a → B ≤ a.block ∧ a.block < w.heap.size) ∧ few 64 e'.list.length e'.c ∧ CpL B w l e'.list
def CpL (B : Nat) (w : World) : List EX → List EX → Prop
  | [], l' => l' = []
  | x :: l, l' => ∃ y r, l' = y :: r ∧ CpX B w x y ∧ CpL B w l r
end
mutual
theorem CpX.keepC {B : Nat} {K : Nat → Prop} {w w' : World} (c : Chg K w w') (hk : ∀ b, B ≤ b → b < w.heap.size → ¬ K b) : ∀ {e e' : EX}, CpX B w e e' → CpX B w' e e'
  | .mk k a b m n _ _ l, e', h => by
    simp only [CpX] at h ⊢
    exact ⟨h.1, h.2.1, h.2.2.1.keep c fun a ha => hk _ (h.2.2.2.1 a ha).1 (h.2.2.2.1 a ha).2, fun a ha => ⟨(h.2.2.2.1 a ha).1, Nat.lt_of_lt_of_le (h.2.2.2.1 a ha).2 c.size⟩, h.2.2.2.2.1, CpL.keepC c hk h.2.2.2.2.2⟩
theorem CpL.keepC {B : Nat} {K : Nat → Prop} {w w' : World} (c : Chg K w w') (hk : ∀ b, B ≤ b → b < w.heap.size → ¬ K b) : ∀ {l l' : List EX}, CpL B w l l' → CpL B w' l l'
  | [], _, h => h
  | x :: l, l', h => by
    obtain ⟨y, r, h1, h2, h3⟩ := h
    exact ⟨y, r, h1, CpX.keepC c hk h2, CpL.keepC c hk h3⟩
end
theorem CpX.keep {B : Nat} {K : Nat → Prop} {w w' : World} {e e' : EX} (h : CpX B w e e') (c : Chg K w w') (hk : ∀ b, K b → b < B) : CpX B w' e e' := CpX.keepC c (fun b hb _ hK => by have := hk b hK; omega) h
theorem CpX.ext {B : Nat} {w w' : World} {e e' : EX} (h : CpX B w e e') (c : Ext w w') : CpX B w' e e' := h.keep c fun _ hb => hb.elim
mutual
theorem CpX.mono {B B' : Nat} {w : World} (hB : B' ≤ B) : ∀ {e e' : EX}, CpX B w e e' → CpX B' w e e'
  | .mk k a b m n _ _ l, e', h => by
    simp only [CpX] at h ⊢
    exact ⟨h.1, h.2.1, h.2.2.1, fun a ha => ⟨Nat.le_trans hB (h.2.2.2.1 a ha).1, (h.2.2.2.1 a ha).2⟩, h.2.2.2.2.1, CpL.mono hB h.2.2.2.2.2⟩
theorem CpL.mono {B B' : Nat} {w : World} (hB : B' ≤ B) : ∀ {l l' : List EX}, CpL B w l l' → CpL B' w l l'
  | [], _, h => h
  | x :: l, l', h => by
    obtain ⟨y, r, h1, h2, h3⟩ := h
    exact ⟨y, r, h1, CpX.mono hB h2, CpL.mono hB h3⟩
end
mutual
theorem CpX.exr {B : Nat} {w : World} : ∀ {e e' : EX}, CpX B w e e' → ExR w e'
  | .mk k a b m n _ _ l, .mk k' a' b' m' n' A' c' l', h => by
    simp only [CpX, EX.A, EX.c, EX.list] at h
    simp only [ExR]
    exact ⟨h.2.2.1, h.2.2.2.2.1, CpL.exr h.2.2.2.2.2⟩
theorem CpL.exr {B : Nat} {w : World} : ∀ {l l' : List EX}, CpL B w l l' → ExRL w l'
  | [], _, h => by
    have h : _ = [] := h
    subst h; trivial
  | x :: l, l', h => by
    obtain ⟨y, r, h1, h2, h3⟩ := h
    subst h1
    exact ⟨CpX.exr h2, CpL.exr h3⟩
end
def CpF (B : Nat) (w : World) (l L : List EX) (i : Nat) : Prop := ∀ (j : Nat) (x y : EX), j < i → l[j]? = some x → L[j]? = some y → CpX B w x y
theorem CpF.zero (B : Nat) (w : World) (l L : List EX) : CpF B w l L 0 := fun j _ _ h => by omega
theorem CpF.keep {B i : Nat} {K : Nat → Prop} {w w' : World} {l L : List EX} (h : CpF B w l L i) (c : Chg K w w') (hk : ∀ b, K b → b < B) : CpF B w' l L i := fun j x y hj hx hy => (h j x y hj hx hy).keep c hk
theorem CpF.ext {B i : Nat} {w w' : World} {l L : List EX} (h : CpF B w l L i) (c : Ext w w') : CpF B w' l L i := fun j x y hj hx hy => (h j x y hj hx hy).ext c
theorem CpF.snoc {B i : Nat} {w : World} {l L : List EX} {x y : EX} (h : CpF B w l L i) (hx : l[i]? = some x) (ht : CpX B w x y) (hi : i < L.length) : CpF B w l (L.set i y) (i + 1) := fun j a b hj ha hb => by
  by_cases hji : j = i
  · subst hji
    rw [hx] at ha; cases ha
    rw [List.getElem?_set_self hi] at hb; cases hb; exact ht
  · rw [List.getElem?_set_ne (fun hh => hji hh.symm)] at hb
    exact h j a b (by omega) ha hb
theorem CpL.of {B : Nat} {w : World} : ∀ {l L : List EX}, l.length = L.length → (∀ (j : Nat) (x y : EX), l[j]? = some x → L[j]? = some y → CpX B w x y) → CpL B w l L
  | [], [], _, _ => rfl
  | x :: l, [], h, _ => by simp at h
  | [], y :: L, h, _ => by simp at h
  | x :: l, y :: L, h, hh => ⟨y, L, rfl, hh 0 x y rfl rfl, CpL.of (by simpa using h) fun j a b ha hb => hh (j + 1) a b (by simpa using ha) (by simpa using hb)⟩
theorem CpF.all {B i : Nat} {w : World} {l L : List EX} (h : CpF B w l L i) (hi : l.length ≤ i) (hL : L.length = l.length) : CpL B w l L := CpL.of hL.symm fun j x y hx hy => by
  have hj := (List.getElem?_eq_some_iff.1 hx).1
  exact h j x y (by omega) hx hy
theorem CpX.node {B t c : Nat} {w : World} {e : EX} {A : Option Addr} {L : List EX} (hn : e.A = none ↔ A = none) (hl : L.length = e.list.length) (hby : e.list.length * 64 ≤ 140737488355328) (ho : Vx.Own w t 6 (.slice A e.list.length c) e.list.length (L.flatMap EX.cs)) (hB : ∀ k, (Value.slice A e.list.length c).ownBlock = some k → B ≤ k) (ht : CpL B w e.list L) : CpX B w e (.mk e.kind e.frm e.to e.min e.max A c L) := by
  obtain ⟨A', c', h1, h2⟩ := ho.shape
  cases e with
  | mk k a b m n A0 c0 l =>
    simp only [EX.list, EX.A] at *
    simp only [CpX]
    refine ⟨⟨rfl, rfl, rfl, rfl, rfl⟩, hn, ho.rowO, fun a ha => ?_, ?_, ht⟩
    · have hob : (Value.slice A l.length c).ownBlock = some a.block := by simp only [EX.A] at ha; subst ha; rfl
      exact ⟨hB _ hob, ho.lt _ hob⟩
    · simp only [EX.list, EX.c, hl]
      simp only [Value.slice.injEq, true_and] at h1
      exact ⟨by omega, hby⟩
theorem pf_114 : plainF Tryz.prog 114 = true := by kernel_rfl
theorem pf_82 : plainF Tryz.prog 82 = true := by kernel_rfl
theorem ownExpr_step (e : EX) (d v : Int) (bc : Nat) (w0 : World) (ih : ∀ (x : EX) (w : World) (d v : Int), exN x < exN e → Ext w0 w → ExR w0 x → w0.heap.size ≤ bc → Blk w bc #[.int .i64 v] 3 → 0 ≤ v ∧ v ≤ 4096 → 0 ≤ d ∧ d ≤ 65 → Calls Tryz.prog 82 #[(.agg #[(.int .i64 x.kind), (.int .i64 x.frm), (.int .i64 x.to), (.int .i64 x.min), (.int .i64 x.max), (.slice x.A x.list.length x.c)]), .int .i64 d, .pointer (some ⟨bc, 0, none⟩)] w (Ret fun v' w' => ∃ e', v' = .tuple #[.agg (EX.cs e').toArray, .bool (ownB x d v).1] ∧ Blk w' bc #[.int .i64 (ownB x d v).2] 3 ∧ ((ownB x d v).1 = true → CpX w.heap.size w' x e') ∧ Chg1 bc w w')) (w : World) (hE0 : Ext w0 w) (hE : ExR w0 e) (hbc : w0.heap.size ≤ bc) (hc : Blk w bc #[.int .i64 v] 3) (hv : 0 ≤ v ∧ v ≤ 4096) (hd0 : 0 ≤ d ∧ d ≤ 65) :
    Calls Tryz.prog 82 #[(.agg #[(.int .i64 e.kind), (.int .i64 e.frm), (.int .i64 e.to), (.int .i64 e.min), (.int .i64 e.max), (.slice e.A e.list.length e.c)]), (.int .i64 d), (.pointer (some ⟨bc, 0, none⟩))] w (Ret (fun v' w' => ∃ e', v' = .tuple #[.agg (EX.cs e').toArray, .bool (ownB e d v).1] ∧ Blk w' bc #[.int .i64 (ownB e d v).2] 3 ∧ ((ownB e d v).1 = true → CpX w.heap.size w' e e') ∧ Chg1 bc w w')) := by
  have hby := hE.row.2.1.by; have hbcw := hc.lt
  have hsz0_ := hE0.size
  refine calls_xc (n := 57) (f := fun s_ => [(.agg #[(.int .i64 e.kind), (.int .i64 e.frm), (.int .i64 e.to), (.int .i64 e.min), (.int .i64 e.max), (.slice e.A e.list.length e.c)]), (.int .i64 d), (.pointer (some ⟨bc, 0, none⟩))].getD s_ undef) Tryz.func82 rfl rfl (by simp) (fun s_ => by simp) ?_
  refine xc_seq ?_
  refine xc_region ?_
  refine xl_op (P := Tryz.prog) (some 3) rfl rfl (ox_box (v := (.agg #[(.int .i64 e.kind), (.int .i64 e.frm), (.int .i64 e.to), (.int .i64 e.min), (.int .i64 e.max), (.slice e.A e.list.length e.c)])) rfl ?_)
  intro w1 e1 z1 b1
  replace b1 : Blk w1 w.heap.size #[(.int .i64 e.kind), (.int .i64 e.frm), (.int .i64 e.to), (.int .i64 e.min), (.int .i64 e.max), (.slice e.A e.list.length e.c)] 64 := b1
  refine xl_op (P := Tryz.prog) (some 6) rfl rfl (ox_alloc tZ_64 ?_)
  intro w2 e2 z2 b2
  replace b2 : Blk w2 w1.heap.size #[(.int .i64 0), (.int .i64 0), (.int .i64 0), (.int .i64 0), (.int .i64 0), (.slice none 0 0)] 64 := b2
  refine xl_op (P := Tryz.prog) (some 7) rfl rfl (ox_assign (v := (.bool false)) rfl ?_)
  refine xl_nil ?_
  refine xc_seq ?_
  refine xc_region ?_
  refine xl_op (P := Tryz.prog) (some 11) rfl rfl (ox_move (v := (.pointer (some ⟨bc, 0, none⟩))) rfl ?_)
  refine xl_op (P := Tryz.prog) (some 12) rfl rfl (ox_nilCheck (p := ⟨bc, 0, none⟩) rfl ?_)
  refine xl_op (P := Tryz.prog) (some 13) rfl rfl (ox_load (v := (.int .i64 v)) tA_3 rfl (((hc.ext e1).ext e2).cell rfl) ?_)
  refine xl_op (P := Tryz.prog) (some 14) rfl rfl (ox_sub64 (a := v) (b := 1) rfl rfl (by omega) ?_)
  refine xl_op (P := Tryz.prog) (some 15) rfl rfl (ox_nilCheck (p := ⟨bc, 0, none⟩) rfl ?_)
  refine xl_op (P := Tryz.prog) none rfl rfl (ox_store (n := 1) (vs := [(.int .i64 (v - 1))]) tS_3 rfl (v := (.int .i64 (v - 1))) rfl rfl rfl rfl ((hc.ext e1).ext e2) (Nat.le_of_ble_eq_true rfl) ?_)
  intro w3 e3 z3 b3
  replace b3 : Blk w3 bc #[(.int .i64 (v - 1))] 3 := b3
  refine xl_nil ?_
  refine xc_seq ?_
  refine xc_seq ?_
  refine xc_region ?_
  refine xl_op (P := Tryz.prog) (some 16) rfl rfl (ox_move (v := (.pointer (some ⟨bc, 0, none⟩))) rfl ?_)
  refine xl_op (P := Tryz.prog) (some 17) rfl rfl (ox_nilCheck (p := ⟨bc, 0, none⟩) rfl ?_)
  refine xl_op (P := Tryz.prog) (some 18) rfl rfl (ox_load (v := (.int .i64 (v - 1))) tA_3 rfl (b3.cell rfl) ?_)
  refine xl_op (P := Tryz.prog) (some 19) rfl rfl (ox_lss (k := .i64) (a := (v - 1)) (b := 0) rfl rfl ?_)
  refine xl_op (P := Tryz.prog) (some 20) rfl rfl (ox_move (v := (.bool (decide ((v - 1 : Int) < 0)))) rfl ?_)
  by_cases h1 : (v - 1 : Int) < 0
  · skip
    refine xl_skip (some 21) (j := 4) (b := false) true rfl rfl (congrArg some (decide_eq_true h1)) (by decide) ?_
    refine xl_skip (some 22) (j := 4) (b := false) true rfl rfl (congrArg some (decide_eq_true h1)) (by decide) ?_
    refine xl_op (P := Tryz.prog) (some 23) rfl rfl (ox_pick_t (v := (.bool true)) (congrArg Value.bool (decide_eq_true h1)) rfl ?_)
    refine xl_nil ?_
    refine xc_cond_t rfl ?_
    refine xc_seq ?_
    refine xc_region ?_
    refine xl_op (P := Tryz.prog) (some 24) rfl rfl (ox_mkStruct (ps := []) (cs := #[(.int .i64 0), (.int .i64 0), (.int .i64 0), (.int .i64 0), (.int .i64 0), (.slice none 0 0)]) tZ_64 tP_64 rfl (by kernel_rfl) ?_)
    have q1 := (b2.keep1 e3 (b2.ne ((hc.ext e1).ext e2) (by decide)))
    refine xl_op (P := Tryz.prog) none rfl rfl (ox_store (n := 6) (vs := [(.int .i64 0), (.int .i64 0), (.int .i64 0), (.int .i64 0), (.int .i64 0), (.slice none 0 0)]) tS_64 rfl (v := (.agg #[(.int .i64 0), (.int .i64 0), (.int .i64 0), (.int .i64 0), (.int .i64 0), (.slice none 0 0)])) rfl rfl rfl rfl q1 (Nat.le_of_ble_eq_true rfl) ?_)
    intro w4 e4 z4 b4
    replace b4 : Blk w4 w1.heap.size #[(.int .i64 0), (.int .i64 0), (.int .i64 0), (.int .i64 0), (.int .i64 0), (.slice none 0 0)] 64 := blk_full b4 rfl
    refine xl_op (P := Tryz.prog) (some 7) rfl rfl (ox_assign (v := (.bool false)) rfl ?_)
    refine xl_nil ?_
    refine xc_ret ?_
    change leaves _ _ _ _ _ _ _
    refine leaves_nil (n := 57) (rs := [.cell 6 64, .tmp 7]) (vs := [(.agg #[(.int .i64 0), (.int .i64 0), (.int .i64 0), (.int .i64 0), (.int .i64 0), (.slice none 0 0)]), (.bool false)]) rfl ⟨⟨by decide, w1.heap.size, 0, 6, [(.int .i64 0), (.int .i64 0), (.int .i64 0), (.int .i64 0), (.int .i64 0), (.slice none 0 0)], rfl, tA_64, tS_64, rfl, ⟨b4.cell rfl, b4.cell rfl, b4.cell rfl, b4.cell rfl, b4.cell rfl, b4.cell rfl, trivial⟩, rfl⟩, ⟨by decide, rfl⟩, trivial⟩ ?_
    have hob : ownB e d v = (false, v - 1) := ownB_no (by omega)
    have y1 : Chg1 bc w w4 := (Chg.chg1 (Chg.trans (Chg.ext (Chg.ext (Chg.refl (fun x => x = bc) w) e1) e2) e3 (fun b hb hl => hb)) e4 (.inr (by omega)))
    exact ⟨exZero, by rw [hob]; rfl, by rw [hob]; exact (b3.keep1 e4 (b3.ne q1 (by decide))), (fun h9 => by rw [hob] at h9; cases h9), y1⟩
  · skip
    refine xl_opg (P := Tryz.prog) (some 21) (j := 4) (b := false) rfl rfl (congrArg some (decide_eq_false h1)) (ox_move (v := (.int .i64 d)) rfl ?_)
    refine xl_opg (P := Tryz.prog) (some 22) (j := 4) (b := false) rfl rfl (congrArg some (decide_eq_false h1)) (ox_gtr (k := .i64) (a := d) (b := 64) rfl rfl ?_)
    refine xl_op (P := Tryz.prog) (some 23) rfl rfl (ox_pick_f (v := (.bool (decide ((64 : Int) < d)))) (congrArg Value.bool (decide_eq_false h1)) rfl ?_)
    refine xl_nil ?_
    refine xc_if (p := (64 : Int) < d) rfl (fun h2 => ?_) (fun h2 => ?_)
    · skip
      refine xc_seq ?_
      refine xc_region ?_
      refine xl_op (P := Tryz.prog) (some 24) rfl rfl (ox_mkStruct (ps := []) (cs := #[(.int .i64 0), (.int .i64 0), (.int .i64 0), (.int .i64 0), (.int .i64 0), (.slice none 0 0)]) tZ_64 tP_64 rfl (by kernel_rfl) ?_)
      have q2 := (b2.keep1 e3 (b2.ne ((hc.ext e1).ext e2) (by decide)))
      refine xl_op (P := Tryz.prog) none rfl rfl (ox_store (n := 6) (vs := [(.int .i64 0), (.int .i64 0), (.int .i64 0), (.int .i64 0), (.int .i64 0), (.slice none 0 0)]) tS_64 rfl (v := (.agg #[(.int .i64 0), (.int .i64 0), (.int .i64 0), (.int .i64 0), (.int .i64 0), (.slice none 0 0)])) rfl rfl rfl rfl q2 (Nat.le_of_ble_eq_true rfl) ?_)
      intro w5 e5 z5 b5
      replace b5 : Blk w5 w1.heap.size #[(.int .i64 0), (.int .i64 0), (.int .i64 0), (.int .i64 0), (.int .i64 0), (.slice none 0 0)] 64 := blk_full b5 rfl
      refine xl_op (P := Tryz.prog) (some 7) rfl rfl (ox_assign (v := (.bool false)) rfl ?_)
      refine xl_nil ?_
      refine xc_ret ?_
      change leaves _ _ _ _ _ _ _
      refine leaves_nil (n := 57) (rs := [.cell 6 64, .tmp 7]) (vs := [(.agg #[(.int .i64 0), (.int .i64 0), (.int .i64 0), (.int .i64 0), (.int .i64 0), (.slice none 0 0)]), (.bool false)]) rfl ⟨⟨by decide, w1.heap.size, 0, 6, [(.int .i64 0), (.int .i64 0), (.int .i64 0), (.int .i64 0), (.int .i64 0), (.slice none 0 0)], rfl, tA_64, tS_64, rfl, ⟨b5.cell rfl, b5.cell rfl, b5.cell rfl, b5.cell rfl, b5.cell rfl, b5.cell rfl, trivial⟩, rfl⟩, ⟨by decide, rfl⟩, trivial⟩ ?_
      have hob : ownB e d v = (false, v - 1) := ownB_no (by omega)
      have y2 : Chg1 bc w w5 := (Chg.chg1 (Chg.trans (Chg.ext (Chg.ext (Chg.refl (fun x => x = bc) w) e1) e2) e3 (fun b hb hl => hb)) e5 (.inr (by omega)))
      exact ⟨exZero, by rw [hob]; rfl, by rw [hob]; exact (b3.keep1 e5 (b3.ne q2 (by decide))), (fun h9 => by rw [hob] at h9; cases h9), y2⟩
    · skip
      refine xc_skip ?_
      refine xc_seq ?_
      refine xc_region ?_
      refine xl_op (P := Tryz.prog) (some 25) rfl rfl (ox_fieldAddr (b := w.heap.size) (o := 0) tF_64_5 rfl ?_)
      have q3 := ((b1.ext e2).keep1 e3 ((b1.ext e2).ne ((hc.ext e1).ext e2) (by decide)))
      refine xl_op (P := Tryz.prog) (some 26) rfl rfl (ox_load (v := (.slice e.A e.list.length e.c)) tA_62 rfl (q3.cell rfl) ?_)
      have x1 : Ext w0 w3 := (Ext.chg1 (Ext.trans (Ext.trans hE0 e1) e2) e3 (by omega))
      refine xl_op (P := Tryz.prog) (some 27) rfl rfl (ox_callE (al := [(.slice e.A e.list.length e.c)]) pf_114 rfl (ret_mono (cloneEX e.list e.A e.c w3 (hE.row.1.ext x1) (by omega)) ?_))
      rintro _ w6 ⟨A1, c1, rfl, hn1, hnil1, e6⟩
      have he6 := e6.size
      refine xl_op (P := Tryz.prog) (some 28) rfl rfl (ox_fieldAddr (b := w.heap.size) (o := 0) tF_64_5 rfl ?_)
      refine xl_op (P := Tryz.prog) none rfl rfl (ox_store (n := 1) (vs := [(.slice A1 e.list.length c1)]) tS_62 rfl (v := (.slice A1 e.list.length c1)) rfl rfl rfl rfl (q3.ext e6) (Nat.le_of_ble_eq_true rfl) ?_)
      intro w7 e7 z6 b6
      replace b6 : Blk w7 w.heap.size #[(.int .i64 e.kind), (.int .i64 e.frm), (.int .i64 e.to), (.int .i64 e.min), (.int .i64 e.max), (.slice A1 e.list.length c1)] 64 := b6
      refine xl_nil ?_
      refine xc_seq ?_
      refine xc_seq ?_
      refine xc_region ?_
      refine xl_op (P := Tryz.prog) (some 29) rfl rfl (ox_fieldAddr (b := w.heap.size) (o := 0) tF_64_5 rfl ?_)
      refine xl_op (P := Tryz.prog) (some 30) rfl rfl (ox_load (v := (.slice A1 e.list.length c1)) tA_62 rfl (b6.cell rfl) ?_)
      refine xl_op (P := Tryz.prog) (some 31) rfl rfl (ox_len (A := A1) (n := e.list.length) (cp := c1) rfl tU_62 rfl ?_)
      refine xl_op (P := Tryz.prog) (some 32) rfl rfl (ox_move (v := (.int .i64 0)) rfl ?_)
      refine xl_nil ?_
      refine xc_block ?_
      have q4 := (hn1.1.keep1 e7 (fun k hk => by have _q := hn1.2 k hk; omega))
      have hAlt : ∀ b, (Value.slice A1 e.list.length c1).ownBlock = some b → b < w7.heap.size := q4.lt
      have q5 := ((b3.ext e6).keep1 e7 ((b3.ext e6).ne (q3.ext e6) (by decide)))
      have hbcl : bc < w7.heap.size := q5.lt
      have q6 := (b2.keep1 e3 (b2.ne ((hc.ext e1).ext e2) (by decide)))
      have q7 := ((q6.ext e6).keep1 e7 (by have _q := b2.lt; omega))
      have y3 : Chg1 bc w w7 := (Chg.chg1 (Chg.ext (Chg.trans (Chg.ext (Chg.ext (Chg.refl (fun x => x = bc) w) e1) e2) e3 (fun b hb hl => hb)) e6) e7 (.inr (by omega)))
      refine xc_loopN (fun m_ f_ Wx => ∃ (i : Nat) (vv : Int) (L : List EX), m_ = e.list.length - i ∧ (i ≤ e.list.length) ∧ (ownBL e.list (d + 1) (v - 1) = ownBL (e.list.drop i) (d + 1) vv) ∧ (L.drop i = e.list.drop i) ∧ (0 ≤ vv ∧ vv ≤ 4096) ∧ f_ 1 = (.int .i64 d) ∧ f_ 2 = (.pointer (some ⟨bc, 0, none⟩)) ∧ f_ 3 = (.pointer (some ⟨w.heap.size, 0, none⟩)) ∧ f_ 6 = (.pointer (some ⟨w1.heap.size, 0, none⟩)) ∧ f_ 31 = (.int .i64 (((e.list.length : Nat) : Int))) ∧ f_ 32 = (.int .i64 ((i : Nat))) ∧ Vx.Own Wx 64 6 (.slice A1 e.list.length c1) e.list.length (L.flatMap EX.cs) ∧ (Blk Wx bc #[.int .i64 vv] 3) ∧ (CpF w7.heap.size Wx e.list L i) ∧ (w7.heap.size ≤ Wx.heap.size) ∧ Blk Wx w.heap.size #[(.int .i64 e.kind), (.int .i64 e.frm), (.int .i64 e.to), (.int .i64 e.min), (.int .i64 e.max), (.slice A1 e.list.length c1)] 64 ∧ Blk Wx w1.heap.size #[(.int .i64 0), (.int .i64 0), (.int .i64 0), (.int .i64 0), (.int .i64 0), (.slice none 0 0)] 64 ∧ Chg1 bc w Wx) (e.list.length) ?_ ?_
      · exact ⟨0, (v - 1), e.list, (by omega), (by omega), rfl, rfl, (by omega), rfl, rfl, rfl, rfl, rfl, (by first | exact rfl | exact (congrArg (Value.int .i64) (by omega))), q4, q5, (CpF.zero _ _ _ _), (Nat.le_refl _), b6, q7, y3⟩
      · rintro m_ f1 w8 ⟨i, vv, L, hm_f1, hi, hq, hd, hvv, g1_f1, g2_f1, g3_f1, g6_f1, g31_f1, g32_f1, o0_f1, t0_f1, t1_f1, t2_f1, c0_f1, c1_f1, x2⟩
        have hx2 := x2.size
        have hl_L : L.length = e.list.length := by have _q := (o0_f1).len; rw [fm_len EX.len] at _q; omega
        refine xc_seq ?_
        refine xc_region ?_
        refine xl_op (P := Tryz.prog) (some 33) rfl rfl (ox_lss (k := .i64) (a := ((i : Nat))) (b := (((e.list.length : Nat) : Int))) g32_f1 g31_f1 ?_)
        refine xl_nil ?_
        refine xc_seq ?_
        refine xc_if (p := ((i : Nat) : Int) < (((e.list.length : Nat) : Int))) rfl (fun h3 => ?_) (fun h3 => ?_)
        · skip
          refine xc_skip ?_
          refine xc_seq ?_
          refine xc_block ?_
          refine xc_seq ?_
          refine xc_region ?_
          refine xl_op (P := Tryz.prog) (some 34) rfl rfl (ox_move (v := (.int .i64 ((i : Nat)))) g32_f1 ?_)
          refine xl_op (P := Tryz.prog) (some 8) rfl rfl (ox_assign (v := (.int .i64 ((i : Nat)))) rfl ?_)
          refine xl_nil ?_
          refine xc_seq ?_
          refine xc_region ?_
          refine xl_op (P := Tryz.prog) (some 36) rfl rfl (ox_fieldAddr (b := w.heap.size) (o := 0) tF_64_5 g3_f1 ?_)
          refine xl_op (P := Tryz.prog) (some 37) rfl rfl (ox_load (v := (.slice A1 e.list.length c1)) tA_62 rfl (c0_f1.cell rfl) ?_)
          refine xl_op (P := Tryz.prog) (some 38) rfl rfl (ox_move (v := (.int .i64 ((i : Nat)))) rfl ?_)
          obtain ⟨x_1, g_1, hx_1⟩ := own_may (A := A1) i EX.len (by decide) o0_f1
          obtain ⟨hx_2, hA_1, hc_1⟩ := hx_1 (by first | omega | (simp only [List.length_drop, List.length_replicate, List.length_set, List.length_append, List.length_map, List.length_singleton] at *; omega))
          refine xl_op (P := Tryz.prog) (some 39) rfl rfl (ox_ixA (b := g_1) (o := 0) (i := ((i : Nat))) i tE_62 hA_1 rfl rfl rfl (by omega) ?_)
          refine xl_op (P := Tryz.prog) (some 40) rfl rfl (ox_loadN (vs := [(.int .i64 x_1.kind), (.int .i64 x_1.frm), (.int .i64 x_1.to), (.int .i64 x_1.min), (.int .i64 x_1.max), (.slice x_1.A x_1.list.length x_1.c)]) tA_64 tS_64 rfl rfl hc_1 ?_)
          refine xl_op (P := Tryz.prog) (some 41) rfl rfl (ox_move (v := (.int .i64 d)) g1_f1 ?_)
          refine xl_op (P := Tryz.prog) (some 42) rfl rfl (ox_add64 (a := d) (b := 1) rfl rfl (by omega) ?_)
          refine xl_op (P := Tryz.prog) (some 43) rfl rfl (ox_move (v := (.pointer (some ⟨bc, 0, none⟩))) g2_f1 ?_)
          have hex_ : e.list[i]? = some x_1 := (drop_get0 hd).symm.trans hx_2
          have x3 : Ext w0 w8 := (Ext.chg1 hE0 x2 (by omega))
          refine xl_op (P := Tryz.prog) (some 44) rfl rfl (ox_callE (al := [(.agg #[(.int .i64 x_1.kind), (.int .i64 x_1.frm), (.int .i64 x_1.to), (.int .i64 x_1.min), (.int .i64 x_1.max), (.slice x_1.A x_1.list.length x_1.c)]), (.int .i64 (d + 1)), (.pointer (some ⟨bc, 0, none⟩))]) pf_82 rfl (ret_mono (ih x_1 w8 (d + 1) vv (exN_mem (List.mem_of_getElem? hex_)) x3 (hE.row.2.2 _ (List.mem_of_getElem? hex_)) hbc t0_f1 hvv (by omega)) ?_))
          rintro _ w9 ⟨y_1, rfl, hb1, ht1, e8⟩
          have he8 := e8.size
          refine xl_op (P := Tryz.prog) (some 35) rfl rfl (ox_move (v := (.tuple #[(.agg #[(.int .i64 y_1.kind), (.int .i64 y_1.frm), (.int .i64 y_1.to), (.int .i64 y_1.min), (.int .i64 y_1.max), (.slice y_1.A y_1.list.length y_1.c)]), (.bool ((ownB x_1 (d + 1) vv).1))])) rfl ?_)
          refine xl_op (P := Tryz.prog) (some 45) rfl rfl (ox_extract (vs := #[(.agg #[(.int .i64 y_1.kind), (.int .i64 y_1.frm), (.int .i64 y_1.to), (.int .i64 y_1.min), (.int .i64 y_1.max), (.slice y_1.A y_1.list.length y_1.c)]), (.bool ((ownB x_1 (d + 1) vv).1))]) (v := (.agg #[(.int .i64 y_1.kind), (.int .i64 y_1.frm), (.int .i64 y_1.to), (.int .i64 y_1.min), (.int .i64 y_1.max), (.slice y_1.A y_1.list.length y_1.c)])) rfl rfl ?_)
          refine xl_op (P := Tryz.prog) (some 46) rfl rfl (ox_extract (vs := #[(.agg #[(.int .i64 y_1.kind), (.int .i64 y_1.frm), (.int .i64 y_1.to), (.int .i64 y_1.min), (.int .i64 y_1.max), (.slice y_1.A y_1.list.length y_1.c)]), (.bool ((ownB x_1 (d + 1) vv).1))]) (v := (.bool ((ownB x_1 (d + 1) vv).1))) rfl rfl ?_)
          refine xl_op (P := Tryz.prog) (some 9) rfl rfl (ox_alloc tZ_64 ?_)
          intro w10 e9 z7 b7
          replace b7 : Blk w10 w9.heap.size #[(.int .i64 0), (.int .i64 0), (.int .i64 0), (.int .i64 0), (.int .i64 0), (.slice none 0 0)] 64 := b7
          refine xl_op (P := Tryz.prog) none rfl rfl (ox_store (n := 6) (vs := [(.int .i64 y_1.kind), (.int .i64 y_1.frm), (.int .i64 y_1.to), (.int .i64 y_1.min), (.int .i64 y_1.max), (.slice y_1.A y_1.list.length y_1.c)]) tS_64 rfl (v := (.agg #[(.int .i64 y_1.kind), (.int .i64 y_1.frm), (.int .i64 y_1.to), (.int .i64 y_1.min), (.int .i64 y_1.max), (.slice y_1.A y_1.list.length y_1.c)])) rfl rfl rfl rfl b7 (Nat.le_of_ble_eq_true rfl) ?_)
          intro w11 e10 z8 b8
          replace b8 : Blk w11 w9.heap.size #[(.int .i64 y_1.kind), (.int .i64 y_1.frm), (.int .i64 y_1.to), (.int .i64 y_1.min), (.int .i64 y_1.max), (.slice y_1.A y_1.list.length y_1.c)] 64 := blk_full b8 rfl
          refine xl_op (P := Tryz.prog) (some 10) rfl rfl (ox_assign (v := (.bool ((ownB x_1 (d + 1) vv).1))) rfl ?_)
          refine xl_nil ?_
          refine xc_seq ?_
          refine xc_seq ?_
          refine xc_region ?_
          refine xl_op (P := Tryz.prog) (some 47) rfl rfl (ox_move (v := (.bool ((ownB x_1 (d + 1) vv).1))) rfl ?_)
          refine xl_op (P := Tryz.prog) (some 48) rfl rfl (ox_not (b := (((ownB x_1 (d + 1) vv).1))) rfl ?_)
          refine xl_nil ?_
          refine xc_cond (b := (!((ownB x_1 (d + 1) vv).1))) rfl (fun h4 => ?_) (fun h4 => ?_)
          · skip
            have h4' := h4
            try simp only [Bool.or_eq_true, Bool.and_eq_true, decide_eq_true_eq, Bool.or_eq_false_iff, Bool.and_eq_false_iff, decide_eq_false_iff_not, Bool.not_eq_true', Bool.not_eq_false'] at h4'
            have hok_ : (ownB x_1 (d + 1) vv).1 = false := by revert h4; cases (ownB x_1 (d + 1) vv).1 <;> simp
            refine xc_seq ?_
            refine xc_region ?_
            refine xl_op (P := Tryz.prog) (some 49) rfl rfl (ox_mkStruct (ps := []) (cs := #[(.int .i64 0), (.int .i64 0), (.int .i64 0), (.int .i64 0), (.int .i64 0), (.slice none 0 0)]) tZ_64 tP_64 rfl (by kernel_rfl) ?_)
            have q8 := (c1_f1.keep1 e8 (by have _q := c1_f1.lt; omega))
            have q9 := ((q8.ext e9).keep1 e10 (by have _q := c1_f1.lt; omega))
            refine xl_op (P := Tryz.prog) none rfl rfl (ox_store (n := 6) (vs := [(.int .i64 0), (.int .i64 0), (.int .i64 0), (.int .i64 0), (.int .i64 0), (.slice none 0 0)]) tS_64 g6_f1 (v := (.agg #[(.int .i64 0), (.int .i64 0), (.int .i64 0), (.int .i64 0), (.int .i64 0), (.slice none 0 0)])) rfl rfl rfl rfl q9 (Nat.le_of_ble_eq_true rfl) ?_)
            intro w12 e11 z9 b9
            replace b9 : Blk w12 w1.heap.size #[(.int .i64 0), (.int .i64 0), (.int .i64 0), (.int .i64 0), (.int .i64 0), (.slice none 0 0)] 64 := blk_full b9 rfl
            refine xl_op (P := Tryz.prog) (some 7) rfl rfl (ox_assign (v := (.bool false)) rfl ?_)
            refine xl_nil ?_
            refine xc_ret ?_
            change leaves _ _ _ _ _ _ _
            refine leaves_nil (n := 57) (rs := [.cell 6 64, .tmp 7]) (vs := [(.agg #[(.int .i64 0), (.int .i64 0), (.int .i64 0), (.int .i64 0), (.int .i64 0), (.slice none 0 0)]), (.bool false)]) rfl ⟨⟨by decide, w1.heap.size, 0, 6, [(.int .i64 0), (.int .i64 0), (.int .i64 0), (.int .i64 0), (.int .i64 0), (.slice none 0 0)], g6_f1, tA_64, tS_64, rfl, ⟨b9.cell rfl, b9.cell rfl, b9.cell rfl, b9.cell rfl, b9.cell rfl, b9.cell rfl, trivial⟩, rfl⟩, ⟨by decide, rfl⟩, trivial⟩ ?_
            have q10 := ((hb1.ext e9).keep1 e10 ((hb1.ext e9).ne b7 (by decide)))
            have hob : ownB e d v = (false, (ownB x_1 (d + 1) vv).2) := (ownB_yes (by omega)).trans (hq.trans (ownBL_bad hex_ hok_))
            have y4 : Chg1 bc w w12 := (Chg.chg1 (Chg.chg1 (Chg.ext (Chg.trans (Chg.trans (Chg.refl (fun x => x = bc) w) x2 (fun b hb hl => hb)) e8 (fun b hb hl => hb)) e9) e10 (.inr (by omega))) e11 (.inr (by omega)))
            exact ⟨exZero, by rw [hob]; rfl, by rw [hob]; exact (q10.keep1 e11 (q10.ne q9 (by decide))), (fun h9 => by rw [hob] at h9; cases h9), y4⟩
          · skip
            have h4' := h4
            try simp only [Bool.or_eq_true, Bool.and_eq_true, decide_eq_true_eq, Bool.or_eq_false_iff, Bool.and_eq_false_iff, decide_eq_false_iff_not, Bool.not_eq_true', Bool.not_eq_false'] at h4'
            have hok_ : (ownB x_1 (d + 1) vv).1 = true := by revert h4; cases (ownB x_1 (d + 1) vv).1 <;> simp
            refine xc_skip ?_
            refine xc_region ?_
            refine xl_op (P := Tryz.prog) (some 50) rfl rfl (ox_fieldAddr (b := w.heap.size) (o := 0) tF_64_5 g3_f1 ?_)
            have q11 := (c0_f1.keep1 e8 (by have _q := c0_f1.lt; omega))
            have q12 := ((q11.ext e9).keep1 e10 (by have _q := c0_f1.lt; omega))
            refine xl_op (P := Tryz.prog) (some 51) rfl rfl (ox_load (v := (.slice A1 e.list.length c1)) tA_62 rfl (q12.cell rfl) ?_)
            refine xl_op (P := Tryz.prog) (some 52) rfl rfl (ox_move (v := (.int .i64 ((i : Nat)))) rfl ?_)
            refine xl_op (P := Tryz.prog) (some 53) rfl rfl (ox_loadN (vs := [(.int .i64 y_1.kind), (.int .i64 y_1.frm), (.int .i64 y_1.to), (.int .i64 y_1.min), (.int .i64 y_1.max), (.slice y_1.A y_1.list.length y_1.c)]) tA_64 tS_64 rfl rfl ⟨b8.cell rfl, b8.cell rfl, b8.cell rfl, b8.cell rfl, b8.cell rfl, b8.cell rfl, trivial⟩ ?_)
            have q13 := (o0_f1.keep1 e8 (fun k hk => by have _q := hn1.2 k hk; omega))
            have q14 := ((q13.ext e9).keep1 e10 (fun k hk => by have _q := (q13.lt) k hk; omega))
            obtain ⟨x_2, g_2, hx_3⟩ := own_may (A := A1) i EX.len (by decide) q14
            obtain ⟨hx_4, hA_2, hc_2⟩ := hx_3 (by first | omega | (simp only [List.length_drop, List.length_replicate, List.length_set, List.length_append, List.length_map, List.length_singleton] at *; omega))
            refine xl_op (P := Tryz.prog) (some 54) rfl rfl (ox_ixA (b := g_2) (o := 0) (i := ((i : Nat))) i tE_62 hA_2 rfl rfl rfl (by omega) ?_)
            refine xl_op (P := Tryz.prog) none rfl rfl (ox_stE (i := i) (off := 0) (vs := [(.int .i64 y_1.kind), (.int .i64 y_1.frm), (.int .i64 y_1.to), (.int .i64 y_1.min), (.int .i64 y_1.max), (.slice y_1.A y_1.list.length y_1.c)]) (b := (y_1 : EX)) EX.len tS_64 hA_2 rfl (v := (.agg #[(.int .i64 y_1.kind), (.int .i64 y_1.frm), (.int .i64 y_1.to), (.int .i64 y_1.min), (.int .i64 y_1.max), (.slice y_1.A y_1.list.length y_1.c)])) rfl rfl rfl rfl q14 hx_4 rfl (by decide) (by omega) ?_)
            intro w13 e12 z10 o1
            refine xl_nil ?_
            refine xc_region ?_
            refine xl_op (P := Tryz.prog) (some 55) rfl rfl (ox_add64 (a := ((i : Nat))) (b := 1) g32_f1 rfl (by omega) ?_)
            refine xl_op (P := Tryz.prog) (some 32) rfl rfl (ox_move (v := (.int .i64 ((i : Nat) + 1))) rfl ?_)
            refine xl_nil ?_
            have q15 := ((hb1.ext e9).keep1 e10 ((hb1.ext e9).ne b7 (by decide)))
            have q16 := (q15.keep e12 (fun _h => q14.ne_blk q15 (by decide) _ _h rfl))
            have hcp9 : CpX w7.heap.size w9 x_1 y_1 := (CpX.mono (by omega) (ht1 hok_))
            have x4 : Ext w9 w11 := (Ext.chg1 e9 e10 (by omega))
            have q17 := (CpF.ext (CpF.keep t1_f1 e8 (fun b hb => by subst hb; omega)) x4)
            have q18 := (q12.keep e12 (fun _h => by have _q := hn1.2 _ _h; have _q2 := c0_f1.lt; omega))
            have q19 := (c1_f1.keep1 e8 (by have _q := c1_f1.lt; omega))
            have q20 := ((q19.ext e9).keep1 e10 (by have _q := c1_f1.lt; omega))
            have q21 := (q20.keep e12 (fun _h => by have _q := hn1.2 _ _h; have _q2 := c1_f1.lt; omega))
            have y5 : Chg1 bc w w13 := (Chg.trans (Chg.chg1 (Chg.ext (Chg.trans (Chg.trans (Chg.refl (fun x => x = bc) w) x2 (fun b hb hl => hb)) e8 (fun b hb hl => hb)) e9) e10 (.inr (by omega))) e12 (fun b hb hl => absurd hl (by have _h := hn1.2 b hb; omega)))
            exact ⟨rfl, e.list.length - (i + 1), by omega, i + 1, (ownB x_1 (d + 1) vv).2, (L.set i y_1), by omega, (by omega), (hq.trans (ownBL_next hex_ hok_)), (drop_set hd), (by have _b := (ownB_bd x_1 (d + 1) vv hok_ (by omega)); omega), g1_f1, g2_f1, g3_f1, g6_f1, g31_f1, (by first | exact rfl | exact (congrArg (Value.int .i64) (by omega))), o1, q16, (CpF.snoc (CpF.keep q17 e12 hAlt) hex_ (CpX.keep (CpX.ext hcp9 x4) e12 hAlt) (by omega)), (by omega), q18, q21, y5⟩
        · skip
          refine xc_exit ?_
          refine xc_seq ?_
          refine xc_region ?_
          refine xl_op (P := Tryz.prog) (some 56) rfl rfl (ox_loadN (vs := [(.int .i64 e.kind), (.int .i64 e.frm), (.int .i64 e.to), (.int .i64 e.min), (.int .i64 e.max), (.slice A1 e.list.length c1)]) tA_64 tS_64 g3_f1 rfl ⟨c0_f1.cell rfl, c0_f1.cell rfl, c0_f1.cell rfl, c0_f1.cell rfl, c0_f1.cell rfl, c0_f1.cell rfl, trivial⟩ ?_)
          refine xl_op (P := Tryz.prog) none rfl rfl (ox_store (n := 6) (vs := [(.int .i64 e.kind), (.int .i64 e.frm), (.int .i64 e.to), (.int .i64 e.min), (.int .i64 e.max), (.slice A1 e.list.length c1)]) tS_64 g6_f1 (v := (.agg #[(.int .i64 e.kind), (.int .i64 e.frm), (.int .i64 e.to), (.int .i64 e.min), (.int .i64 e.max), (.slice A1 e.list.length c1)])) rfl rfl rfl rfl c1_f1 (Nat.le_of_ble_eq_true rfl) ?_)
          intro w14 e13 z11 b10
          replace b10 : Blk w14 w1.heap.size #[(.int .i64 e.kind), (.int .i64 e.frm), (.int .i64 e.to), (.int .i64 e.min), (.int .i64 e.max), (.slice A1 e.list.length c1)] 64 := blk_full b10 rfl
          refine xl_op (P := Tryz.prog) (some 7) rfl rfl (ox_assign (v := (.bool true)) rfl ?_)
          refine xl_nil ?_
          refine xc_ret ?_
          change leaves _ _ _ _ _ _ _
          refine leaves_nil (n := 57) (rs := [.cell 6 64, .tmp 7]) (vs := [(.agg #[(.int .i64 e.kind), (.int .i64 e.frm), (.int .i64 e.to), (.int .i64 e.min), (.int .i64 e.max), (.slice A1 e.list.length c1)]), (.bool true)]) rfl ⟨⟨by decide, w1.heap.size, 0, 6, [(.int .i64 e.kind), (.int .i64 e.frm), (.int .i64 e.to), (.int .i64 e.min), (.int .i64 e.max), (.slice A1 e.list.length c1)], g6_f1, tA_64, tS_64, rfl, ⟨b10.cell rfl, b10.cell rfl, b10.cell rfl, b10.cell rfl, b10.cell rfl, b10.cell rfl, trivial⟩, rfl⟩, ⟨by decide, rfl⟩, trivial⟩ ?_
          have q22 := (t0_f1.keep1 e13 (t0_f1.ne c1_f1 (by decide)))
          have hob : ownB e d v = (true, vv) := (ownB_yes (by omega)).trans (hq.trans (by rw [List.drop_of_length_le (by omega)]; rfl))
          have q23 := (o0_f1.keep1 e13 (fun k hk => by have _q := hn1.2 k hk; omega))
          have hLl : L.length = e.list.length := hl_L
          have hT9 := (CpF.keep t1_f1 e13 (fun b hb => by subst hb; omega))
          have y6 : Chg1 bc w w14 := (Chg.chg1 (Chg.trans (Chg.refl (fun x => x = bc) w) x2 (fun b hb hl => hb)) e13 (.inr (by omega)))
          exact ⟨EX.mk e.kind e.frm e.to e.min e.max A1 c1 L, by rw [hob]; show one [_, _] = Value.tuple #[Value.agg #[_, _, _, _, _, .slice _ L.length _], _]; rw [hLl]; rfl, by rw [hob]; exact q22, fun _ => CpX.node hnil1 hLl (by omega) q23 (fun k hk => by have _h := hn1.2 k hk; omega) (CpL.mono (by omega) (hT9.all (by omega) hLl)), y6⟩
theorem ownExpr_calls (bc : Nat) (w0 : World) (e : EX) (w : World) (d v : Int) : Ext w0 w → ExR w0 e → w0.heap.size ≤ bc → Blk w bc #[.int .i64 v] 3 → 0 ≤ v ∧ v ≤ 4096 → 0 ≤ d ∧ d ≤ 65 → Calls Tryz.prog 82 #[(.agg #[(.int .i64 e.kind), (.int .i64 e.frm), (.int .i64 e.to), (.int .i64 e.min), (.int .i64 e.max), (.slice e.A e.list.length e.c)]), .int .i64 d, .pointer (some ⟨bc, 0, none⟩)] w (Ret fun v' w' => ∃ e', v' = .tuple #[.agg (EX.cs e').toArray, .bool (ownB e d v).1] ∧ Blk w' bc #[.int .i64 (ownB e d v).2] 3 ∧ ((ownB e d v).1 = true → CpX w.heap.size w' e e') ∧ Chg1 bc w w') := by
  have key : ∀ n : Nat, ∀ e : EX, exN e = n → ∀ (w : World) (d v : Int), Ext w0 w → ExR w0 e → w0.heap.size ≤ bc → Blk w bc #[.int .i64 v] 3 → 0 ≤ v ∧ v ≤ 4096 → 0 ≤ d ∧ d ≤ 65 → Calls Tryz.prog 82 #[(.agg #[(.int .i64 e.kind), (.int .i64 e.frm), (.int .i64 e.to), (.int .i64 e.min), (.int .i64 e.max), (.slice e.A e.list.length e.c)]), .int .i64 d, .pointer (some ⟨bc, 0, none⟩)] w (Ret fun v' w' => ∃ e', v' = .tuple #[.agg (EX.cs e').toArray, .bool (ownB e d v).1] ∧ Blk w' bc #[.int .i64 (ownB e d v).2] 3 ∧ ((ownB e d v).1 = true → CpX w.heap.size w' e e') ∧ Chg1 bc w w') := by
    intro n
    induction n using Nat.strongRecOn with
    | _ n ih => intro e he w d v h1 h2 h3 h4 h5 h6; exact ownExpr_step e d v bc w0 (fun x w d v hx => ih (exN x) (by omega) x rfl w d v) w h1 h2 h3 h4 h5 h6
  exact key _ e rfl w d v
end Go.Proofs.YtnnmdkglgnlenaaGreatDoor
set_option linter.unusedVariables false
set_option linter.unusedSimpArgs false
set_option maxRecDepth 100000
set_option maxHeartbeats 4000000
namespace Go.Proofs.YtnnmdkglgnlenaaGreatDoor
open Go Go.RowKit Go.Vx
def RevI (l M : List Sym) (i j : Int) : Prop := ∀ k : Nat, k < l.length → M[k]? = if (k : Int) < i ∨ j < (k : Int) then l[l.length - 1 - k]? else l[k]?
theorem rev_start (l : List Sym) : RevI l l 0 ((l.length : Int) - 1) := fun k hk => by rw [if_neg (by omega)]
theorem rev_next {l M : List Sym} {i j : Int} {x y : Sym} (h : 0 ≤ i ∧ i + j = (l.length : Int) - 1) (hlt : i < j) (hl : M.length = l.length) (hM : RevI l M i j) (hx : M[i.toNat]? = some x) (hy : M[j.toNat]? = some y) : RevI l ((M.set i.toNat y).set j.toNat x) (i + 1) (j - 1) := fun k hk => by
  have h1 := hM i.toNat (by omega)
  have h2 := hM j.toNat (by omega)
  rw [if_neg (by omega), hx] at h1
  rw [if_neg (by omega), hy] at h2
  by_cases hkj : k = j.toNat
  · subst hkj
    rw [List.getElem?_set_self (by rw [List.length_set]; omega), if_pos (by omega), show l.length - 1 - j.toNat = i.toNat by omega]; exact h1
  · rw [List.getElem?_set_ne (fun hh => hkj hh.symm)]
    by_cases hki : k = i.toNat
    · subst hki
      rw [List.getElem?_set_self (by omega), if_pos (by omega), show l.length - 1 - i.toNat = j.toNat by omega]; exact h2
    · rw [List.getElem?_set_ne (fun hh => hki hh.symm), hM k hk]
      by_cases hc : (k : Int) < i ∨ j < (k : Int)
      · rw [if_pos hc, if_pos (by omega)]
      · rw [if_neg hc, if_neg (by omega)]
theorem rev_end {l M : List Sym} {i j : Int} (h : 0 ≤ i ∧ i + j = (l.length : Int) - 1) (hge : j ≤ i) (hl : M.length = l.length) (hM : RevI l M i j) : M = l.reverse := by
  apply List.ext_getElem?
  intro k
  by_cases hk : k < l.length
  · rw [hM k hk, List.getElem?_reverse hk]
    by_cases hc : (k : Int) < i ∨ j < (k : Int)
    · rw [if_pos hc]
    · rw [if_neg hc, show l.length - 1 - k = k by omega]
  · rw [List.getElem?_eq_none (by omega), List.getElem?_eq_none (by simp; omega)]
theorem reverse_calls (l : List Sym) (A : Option Addr) (c : Nat) (w : World) (hO : Vx.Own w 32 2 (.slice A l.length c) l.length (l.flatMap Sym.cs)) (hn : l.length ≤ 8796093022208) :
    Calls Tryz.prog 52 #[(.slice A l.length c)] w (Ret (fun v w' => v = .tuple #[] ∧ Vx.Own w' 32 2 (.slice A l.length c) l.length (l.reverse.flatMap Sym.cs) ∧ Chg (fun b => (Value.slice A l.length c).ownBlock = some b) w w')) := by
  refine calls_xc (n := 28) (f := fun s_ => [(.slice A l.length c)].getD s_ undef) Tryz.func52 rfl rfl (by simp) (fun s_ => by simp) ?_
  refine xc_seq ?_
  refine xc_region ?_
  refine xl_op (P := Tryz.prog) (some 4) rfl rfl (ox_move (v := (.slice A l.length c)) rfl ?_)
  refine xl_op (P := Tryz.prog) (some 5) rfl rfl (ox_len (A := A) (n := l.length) (cp := c) rfl tU_33 rfl ?_)
  refine xl_op (P := Tryz.prog) (some 6) rfl rfl (ox_sub64 (a := (((l.length : Nat) : Int))) (b := 1) rfl rfl (by omega) ?_)
  refine xl_op (P := Tryz.prog) (some 2) rfl rfl (ox_assign (v := (.int .i64 0)) rfl ?_)
  refine xl_op (P := Tryz.prog) (some 3) rfl rfl (ox_assign (v := (.int .i64 (((l.length : Nat) : Int) - 1))) rfl ?_)
  refine xl_nil ?_
  refine xc_block ?_
  refine xc_loopN (fun m_ f_ Wx => ∃ (i : Int) (j : Int) (M : List Sym), m_ = (j - i).toNat ∧ (0 ≤ i ∧ i + j = (l.length : Int) - 1) ∧ (RevI l M i j) ∧ f_ 0 = (.slice A l.length c) ∧ f_ 2 = (.int .i64 i) ∧ f_ 3 = (.int .i64 j) ∧ Vx.Own Wx 32 2 (.slice A l.length c) l.length (M.flatMap Sym.cs) ∧ Chg (fun b => ((.slice A l.length c) : Value).ownBlock = some b) w Wx) (((l.length : Int) - 1 - 0).toNat) ?_ ?_
  · exact ⟨0, ((l.length : Int) - 1), l, (by omega), (by omega), (rev_start l), rfl, (by first | exact rfl | exact (congrArg (Value.int .i64) (by omega))), (by first | exact rfl | exact (congrArg (Value.int .i64) (by omega))), hO, (Chg.refl _ _)⟩
  · rintro m_ f1 w1 ⟨i, j, M, hm_f1, hij, hM, g0_f1, g2_f1, g3_f1, o0_f1, x1⟩
    have hx1 := x1.size
    have hl_M : M.length = l.length := by have _q := (o0_f1).len; rw [fm_len Sym.len] at _q; omega
    refine xc_seq ?_
    refine xc_seq ?_
    refine xc_region ?_
    refine xl_op (P := Tryz.prog) (some 7) rfl rfl (ox_move (v := (.int .i64 i)) g2_f1 ?_)
    refine xl_op (P := Tryz.prog) (some 8) rfl rfl (ox_move (v := (.int .i64 j)) g3_f1 ?_)
    refine xl_op (P := Tryz.prog) (some 9) rfl rfl (ox_lss (k := .i64) (a := i) (b := j) rfl rfl ?_)
    refine xl_nil ?_
    refine xc_if (p := (i : Int) < j) rfl (fun h1 => ?_) (fun h1 => ?_)
    · skip
      refine xc_skip ?_
      refine xc_seq ?_
      refine xc_block ?_
      refine xc_regionE [13, 15] (fun W_ => Chg (fun _ => False) w1 W_) hmix ?_
      intro w2 e1 z1
      have hS1 : Chg (fun _ => False) w1 w2 := Ext.to e1
      refine xd_pure 0 (some 14) rfl rfl (by kernel_rfl) (v := (.slice A l.length c)) (.inl ⟨rfl, fun W_ hW_ => ox_move (v := (.slice A l.length c)) g0_f1 ⟨rfl, rfl⟩⟩) ?_
      refine xd_pure 1 (some 15) rfl rfl (by kernel_rfl) (v := (.int .i64 i)) (.inl ⟨rfl, fun W_ hW_ => ox_move (v := (.int .i64 i)) g2_f1 ⟨rfl, rfl⟩⟩) ?_
      refine xd_pure 2 (some 16) rfl rfl (by kernel_rfl) (v := (.slice A l.length c)) (.inl ⟨rfl, fun W_ hW_ => ox_move (v := (.slice A l.length c)) g0_f1 ⟨rfl, rfl⟩⟩) ?_
      refine xd_pure 3 (some 17) rfl rfl (by kernel_rfl) (v := (.int .i64 j)) (.inl ⟨rfl, fun W_ hW_ => ox_move (v := (.int .i64 j)) g3_f1 ⟨rfl, rfl⟩⟩) ?_
      refine xd_pure 4 (some 18) rfl rfl (by kernel_rfl) (v := (.slice A l.length c)) (.inl ⟨rfl, fun W_ hW_ => ox_move (v := (.slice A l.length c)) g0_f1 ⟨rfl, rfl⟩⟩) ?_
      refine xd_pure 5 (some 19) rfl rfl (by kernel_rfl) (v := (.int .i64 j)) (.inl ⟨rfl, fun W_ hW_ => ox_move (v := (.int .i64 j)) g3_f1 ⟨rfl, rfl⟩⟩) ?_
      obtain ⟨x_1, g_1, hx_1⟩ := own_may (A := A) j.toNat Sym.len (by decide) o0_f1
      obtain ⟨hx_2, hA_1, hc_1⟩ := hx_1 (by first | omega | (simp only [List.length_drop, List.length_replicate, List.length_set, List.length_append, List.length_map, List.length_singleton] at *; omega))
      refine xd_pure 6 (some 20) rfl rfl (by kernel_rfl) (v := (.pointer (some ⟨g_1, 0 + j.toNat * 2, none⟩))) (.inl ⟨rfl, fun W_ hW_ => ox_ixA (b := g_1) (o := 0) (i := j) j.toNat tE_33 hA_1 rfl rfl (by omega) (by omega) ⟨rfl, rfl⟩⟩) ?_
      refine xd_take 7 (some 21) rfl rfl (by kernel_rfl) (v := (.agg #[(.int .i64 x_1.kind), (.int .i64 x_1.n)])) (.inl ⟨rfl, fun W_ hW_ => ox_loadN (vs := [(.int .i64 x_1.kind), (.int .i64 x_1.n)]) tA_32 tS_32 rfl rfl (CellsL.keep hW_ not_false hc_1) ⟨rfl, rfl⟩⟩) hS1 ?_
      refine xd_pure 8 (some 22) rfl rfl (by kernel_rfl) (v := (.slice A l.length c)) (.inl ⟨rfl, fun W_ hW_ => ox_move (v := (.slice A l.length c)) g0_f1 ⟨rfl, rfl⟩⟩) ?_
      refine xd_pure 9 (some 23) rfl rfl (by kernel_rfl) (v := (.int .i64 i)) (.inl ⟨rfl, fun W_ hW_ => ox_move (v := (.int .i64 i)) g2_f1 ⟨rfl, rfl⟩⟩) ?_
      obtain ⟨x_2, g_2, hx_3⟩ := own_may (A := A) i.toNat Sym.len (by decide) o0_f1
      obtain ⟨hx_4, hA_2, hc_2⟩ := hx_3 (by first | omega | (simp only [List.length_drop, List.length_replicate, List.length_set, List.length_append, List.length_map, List.length_singleton] at *; omega))
      refine xd_pure 10 (some 24) rfl rfl (by kernel_rfl) (v := (.pointer (some ⟨g_2, 0 + i.toNat * 2, none⟩))) (.inl ⟨rfl, fun W_ hW_ => ox_ixA (b := g_2) (o := 0) (i := i) i.toNat tE_33 hA_2 rfl rfl (by omega) (by omega) ⟨rfl, rfl⟩⟩) ?_
      refine xd_take 11 (some 25) rfl rfl (by kernel_rfl) (v := (.agg #[(.int .i64 x_2.kind), (.int .i64 x_2.n)])) (.inl ⟨rfl, fun W_ hW_ => ox_loadN (vs := [(.int .i64 x_2.kind), (.int .i64 x_2.n)]) tA_32 tS_32 rfl rfl (CellsL.keep hW_ not_false hc_2) ⟨rfl, rfl⟩⟩) hS1 ?_
      refine xd_pure 12 (some 26) rfl rfl (by kernel_rfl) (v := (.pointer (some ⟨g_2, 0 + i.toNat * 2, none⟩))) (.inl ⟨rfl, fun W_ hW_ => ox_ixA (b := g_2) (o := 0) (i := i) i.toNat tE_33 hA_2 rfl rfl (by omega) (by omega) ⟨rfl, rfl⟩⟩) ?_
      refine xd_one 13 none rfl rfl (by kernel_rfl) rfl (ox_stE (i := i.toNat) (off := 0) (vs := [(.int .i64 x_1.kind), (.int .i64 x_1.n)]) (b := ((⟨x_1.kind, x_1.n⟩ : Sym) : Sym)) Sym.len tS_32 hA_2 rfl (v := (.agg #[(.int .i64 x_1.kind), (.int .i64 x_1.n)])) rfl rfl rfl rfl (o0_f1.ext e1) hx_4 rfl (by decide) (by omega) ?_)
      intro w3 e2 z2 o1
      refine ⟨.inl (by decide), ?_⟩
      obtain ⟨x_3, g_3, hx_5⟩ := own_may (A := A) j.toNat Sym.len (by decide) o1
      obtain ⟨hx_6, hA_3, hc_3⟩ := hx_5 (by first | omega | (simp only [List.length_drop, List.length_replicate, List.length_set, List.length_append, List.length_map, List.length_singleton] at *; omega))
      refine xd_pure 14 (some 27) rfl rfl (by kernel_rfl) (v := (.pointer (some ⟨g_3, 0 + j.toNat * 2, none⟩))) (.inl ⟨rfl, fun W_ hW_ => ox_ixA (b := g_3) (o := 0) (i := j) j.toNat tE_33 hA_3 rfl rfl (by omega) (by omega) ⟨rfl, rfl⟩⟩) ?_
      refine xd_one 15 none rfl rfl (by kernel_rfl) rfl (ox_stE (i := j.toNat) (off := 0) (vs := [(.int .i64 x_2.kind), (.int .i64 x_2.n)]) (b := ((⟨x_2.kind, x_2.n⟩ : Sym) : Sym)) Sym.len tS_32 hA_3 rfl (v := (.agg #[(.int .i64 x_2.kind), (.int .i64 x_2.n)])) rfl rfl rfl rfl o1 hx_6 rfl (by decide) (by omega) ?_)
      intro w4 e3 z3 o2
      refine ⟨.inl (by decide), ?_⟩
      refine xd_done (by kernel_rfl) ?_ _
      refine xc_region ?_
      refine xl_op (P := Tryz.prog) (some 10) rfl rfl (ox_move (v := (.int .i64 i)) g2_f1 ?_)
      refine xl_op (P := Tryz.prog) (some 11) rfl rfl (ox_add64 (a := i) (b := 1) rfl rfl (by omega) ?_)
      refine xl_op (P := Tryz.prog) (some 12) rfl rfl (ox_move (v := (.int .i64 j)) g3_f1 ?_)
      refine xl_op (P := Tryz.prog) (some 13) rfl rfl (ox_sub64 (a := j) (b := 1) rfl rfl (by omega) ?_)
      refine xl_op (P := Tryz.prog) (some 2) rfl rfl (ox_assign (v := (.int .i64 (i + 1))) rfl ?_)
      refine xl_op (P := Tryz.prog) (some 3) rfl rfl (ox_assign (v := (.int .i64 (j - 1))) rfl ?_)
      refine xl_nil ?_
      have y1 : Chg (fun b => ((.slice A l.length c) : Value).ownBlock = some b) w w4 := (Chg.trans (Chg.trans (Chg.ext (Chg.trans (Chg.refl (fun b => ((.slice A l.length c) : Value).ownBlock = some b) w) x1 (fun b hb hl => hb)) e1) e2 (fun b hb hl => hb)) e3 (fun b hb hl => hb))
      exact ⟨rfl, (j - 1 - (i + 1)).toNat, by omega, (i + 1), (j - 1), (((M.set i.toNat ((⟨x_1.kind, x_1.n⟩ : Sym)))).set j.toNat ((⟨x_2.kind, x_2.n⟩ : Sym))), by omega, (by omega), (rev_next (by omega) (by omega) hl_M hM hx_4 hx_2), g0_f1, (by first | exact rfl | exact (congrArg (Value.int .i64) (by omega))), (by first | exact rfl | exact (congrArg (Value.int .i64) (by omega))), o2, y1⟩
    · skip
      refine xc_exit ?_
      change leaves _ _ _ _ _ _ _
      refine leaves_nil (n := 28) (rs := []) (vs := []) rfl trivial ?_
      have y2 : Chg (fun b => ((.slice A l.length c) : Value).ownBlock = some b) w w1 := (Chg.trans (Chg.refl (fun b => ((.slice A l.length c) : Value).ownBlock = some b) w) x1 (fun b hb hl => hb))
      exact ⟨rfl, by rw [← rev_end (by omega) (by omega) hl_M hM]; exact o0_f1, y2⟩
end Go.Proofs.YtnnmdkglgnlenaaGreatDoor
set_option linter.unusedVariables false
set_option linter.unusedSimpArgs false
set_option maxRecDepth 100000
set_option maxHeartbeats 4000000
namespace Go.Proofs.YtnnmdkglgnlenaaGreatDoor
open Go Go.RowKit Go.Vx
def lrZero : LR := ⟨⟨#[]⟩, false, exZero⟩
def lrMark : LR := ⟨⟨#[109, 97, 114, 107]⟩, false, exZero⟩
def pdZero : PD := ⟨0, none, 0, []⟩
def pdMark : PD := ⟨-77, none, 0, []⟩
theorem row_mark {α : Type} {r : List α} {z m : α} {n : Nat} (hn : n = r.length) : (r ++ (List.replicate (n + 1) z).drop n).set n m = r ++ [m] := by
  subst hn
  rw [List.set_append_right _ _ (by omega), Nat.sub_self, List.drop_replicate, show r.length + 1 - r.length = 1 by omega]; rfl
theorem set_lastA {α : Type} {n : Nat} {L : List α} {x : α} (h : L.length = n + 1) : (L.take n).length = n ∧ L.set n x = L.take n ++ [x] := by
  refine ⟨by rw [List.length_take]; omega, ?_⟩
  have h1 : L = L.take n ++ L.drop n := (List.take_append_drop n L).symm
  have h2 : (L.drop n).length = 1 := by rw [List.length_drop]; omega
  obtain ⟨y, hy⟩ := List.length_eq_one_iff.1 h2
  conv => lhs; rw [h1, hy]
  rw [List.set_append_right _ _ (by rw [List.length_take]; omega), show n - (L.take n).length = 0 by rw [List.length_take]; omega]; rfl
section
variable {B B' i : Nat} {K : Nat → Prop} {w w' : World}
theorem TwX.keepC {e e' : EX} (h : TwX B w e e') (c : Chg K w w') (hk : ∀ b, B ≤ b → b < w.heap.size → ¬ K b) : TwX B w' e e' := h.imp id fun h => ⟨h.1, TwR.keepC c hk h.2⟩
theorem TwX.keep {e e' : EX} (h : TwX B w e e') (c : Chg K w w') (hk : ∀ b, K b → b < B) : TwX B w' e e' := h.imp id fun h => ⟨h.1, h.2.keep c hk⟩
theorem TwX.mono {e e' : EX} (hB : B' ≤ B) (h : TwX B w e e') : TwX B' w e e' := h.imp id fun h => ⟨h.1, h.2.mono hB⟩
def LxR (B : Nat) (w : World) (x y : LR) : Prop := y.name = x.name ∧ y.trivia = x.trivia ∧ TwX B w x.e y.e
def LxF (B : Nat) (w : World) (l L : List LR) (i : Nat) : Prop := ∀ (j : Nat) (x y : LR), j < i → l[j]? = some x → L[j]? = some y → LxR B w x y
theorem LxF.zero (B : Nat) (w : World) (l L : List LR) : LxF B w l L 0 := fun j _ _ h => by omega
theorem LxF.keepC {l L : List LR} (h : LxF B w l L i) (c : Chg K w w') (hk : ∀ b, K b → B ≤ b → b < w.heap.size → False) : LxF B w' l L i := fun j x y hj hx hy => ⟨(h j x y hj hx hy).1, (h j x y hj hx hy).2.1, (h j x y hj hx hy).2.2.keepC c fun b h1 h2 h3 => hk b h3 h1 h2⟩
theorem LxF.keep {l L : List LR} (h : LxF B w l L i) (c : Chg K w w') (hk : ∀ b, K b → b < B) : LxF B w' l L i := h.keepC c fun b hb h1 _ => by have := hk b hb; omega
theorem LxF.ext {l L : List LR} (h : LxF B w l L i) (c : Ext w w') : LxF B w' l L i := h.keep c fun _ hb => hb.elim
theorem LxF.mono {l L : List LR} (hB : B' ≤ B) (h : LxF B w l L i) : LxF B' w l L i := fun j x y hj hx hy => ⟨(h j x y hj hx hy).1, (h j x y hj hx hy).2.1, (h j x y hj hx hy).2.2.mono hB⟩
theorem LxF.snoc {l L : List LR} {x y : LR} (h : LxF B w l L i) (hx : l[i]? = some x) (ht : LxR B w x y) (hi : i < L.length) : LxF B w l (L.set i y) (i + 1) := fun j a b hj ha hb => by
  by_cases hji : j = i
  · subst hji
    rw [hx] at ha; cases ha
    rw [List.getElem?_set_self hi] at hb; cases hb; exact ht
  · rw [List.getElem?_set_ne (fun hh => hji hh.symm)] at hb
    exact h j a b (by omega) ha hb
theorem LxF.take {l L : List LR} (h : LxF B w l L i) (hi : l.length ≤ i) (j : Nat) (x y : LR) (hx : l[j]? = some x) (hy : (L.take l.length)[j]? = some y) : LxR B w x y := by
  have hj := (List.getElem?_eq_some_iff.1 hx).1
  rw [List.getElem?_take, if_pos hj] at hy
  exact h j x y (by omega) hx hy
structure PdR (B : Nat) (w : World) (x y : PD) : Prop where
  left : y.left = x.left
  right : y.right = x.right
  rc : y.rc = x.right.length + 1
  own : Vx.Own w 32 2 (.slice y.rA (x.right.length + 1) (x.right.length + 1)) (x.right.length + 1) ((x.right ++ [(⟨77, 0⟩ : Sym)]).flatMap Sym.cs)
  low : ∀ k, (Value.slice y.rA (x.right.length + 1) (x.right.length + 1)).ownBlock = some k → B ≤ k
structure PdF (B : Nat) (w : World) (l L : List PD) (i : Nat) : Prop where
  all : ∀ (j : Nat) (x y : PD), j < i → l[j]? = some x → L[j]? = some y → PdR B w x y
  apart : ∀ (j k : Nat) (y z : PD), j < k → k < i → L[j]? = some y → L[k]? = some z → ∀ b, (Value.slice y.rA 0 0).ownBlock = some b → (Value.slice z.rA 0 0).ownBlock = some b → False
theorem PdR.keepC {x y : PD} (h : PdR B w x y) (c : Chg K w w') (hk : ∀ b, K b → B ≤ b → b < w.heap.size → False) : PdR B w' x y := ⟨h.left, h.right, h.rc, h.own.keep c fun k h1 h2 => hk k h2 (h.low k h1) (h.own.lt k h1), h.low⟩
theorem PdF.zero (B : Nat) (w : World) (l L : List PD) : PdF B w l L 0 := ⟨fun j _ _ h => by omega, fun j k _ _ _ h => by omega⟩
theorem PdF.keepC {l L : List PD} (h : PdF B w l L i) (c : Chg K w w') (hk : ∀ b, K b → B ≤ b → b < w.heap.size → False) : PdF B w' l L i := ⟨fun j x y hj hx hy => (h.all j x y hj hx hy).keepC c hk, h.apart⟩
theorem PdF.keep {l L : List PD} (h : PdF B w l L i) (c : Chg K w w') (hk : ∀ b, K b → b < B) : PdF B w' l L i := h.keepC c fun b hb h1 _ => by have := hk b hb; omega
theorem PdF.ext {l L : List PD} (h : PdF B w l L i) (c : Ext w w') : PdF B w' l L i := h.keep c fun _ hb => hb.elim
theorem PdF.mono {l L : List PD} (hB : B' ≤ B) (h : PdF B w l L i) : PdF B' w l L i := ⟨fun j x y hj hx hy => have q := h.all j x y hj hx hy; ⟨q.left, q.right, q.rc, q.own, fun k hk => Nat.le_trans hB (q.low k hk)⟩, h.apart⟩
theorem PdF.snoc {l L : List PD} {x y : PD} (h : PdF B w l L i) (hx : l[i]? = some x) (ht : PdR B w x y) (hi : i < L.length) (hn : ∀ (j : Nat) (z : PD), j < i → L[j]? = some z → ∀ b, (Value.slice z.rA 0 0).ownBlock = some b → (Value.slice y.rA 0 0).ownBlock = some b → False) : PdF B w l (L.set i y) (i + 1) := by
  refine ⟨fun j a b hj ha hb => ?_, fun j k a b hjk hk ha hb => ?_⟩
  · by_cases hji : j = i
    · subst hji
      rw [hx] at ha; cases ha
      rw [List.getElem?_set_self hi] at hb; cases hb; exact ht
    · rw [List.getElem?_set_ne (fun hh => hji hh.symm)] at hb
      exact h.all j a b (by omega) ha hb
  · rw [List.getElem?_set_ne (by omega)] at ha
    by_cases hki : k = i
    · subst hki
      rw [List.getElem?_set_self hi] at hb; cases hb
      exact hn j a hjk ha
    · rw [List.getElem?_set_ne (fun hh => hki hh.symm)] at hb
      exact h.apart j k a b hjk (by omega) ha hb
theorem PdF.lt {l L : List PD} (h : PdF B w l L i) {j : Nat} {y : PD} (hj : j < i ∧ i ≤ l.length) (hy : L[j]? = some y) : ∀ b, (Value.slice y.rA 0 0).ownBlock = some b → b < w.heap.size := fun b hb => by
  obtain ⟨x, hx⟩ : ∃ x, l[j]? = some x := ⟨l[j]'(by omega), List.getElem?_eq_getElem _⟩
  exact (h.all j x y hj.1 hx hy).own.lt b (own_any hb)
theorem PdF.take {l L : List PD} (h : PdF B w l L i) (hi : l.length ≤ i) : PdF B w l (L.take l.length) l.length := by
  refine ⟨fun j x y hj hx hy => ?_, fun j k y z hjk hk hy hz => ?_⟩
  · rw [List.getElem?_take, if_pos hj] at hy
    exact h.all j x y (by omega) hx hy
  · rw [List.getElem?_take, if_pos (by omega)] at hy
    rw [List.getElem?_take, if_pos hk] at hz
    exact h.apart j k y z hjk (by omega) hy hz
end
structure LendR (B : Nat) (w : World) (s s' : SP) : Prop where
  lexO : Vx.Own w 66 8 (.slice s'.lA (s.lex.length + 1) (s.lex.length + 1)) (s.lex.length + 1) ((s'.lex ++ [lrMark]).flatMap LR.cs)
  lexL : s'.lex.length = s.lex.length
  lexC : s'.lc = s.lex.length + 1
  lexR : ∀ (j : Nat) (x y : LR), s.lex[j]? = some x → s'.lex[j]? = some y → LxR B w x y
  namesO : Vx.Own w 9 1 (.slice s'.nA (s.names.length + 1) (s.names.length + 1)) (s.names.length + 1) ((s.names ++ [(⟨#[109, 97, 114, 107]⟩ : ByteArray)]).flatMap strs)
  names : s'.names = s.names
  namesC : s'.nc = s.names.length + 1
  start : s'.start = s.start
  prodsO : Vx.Own w 37 2 (.slice s'.pA (s.prods.length + 1) (s.prods.length + 1)) (s.prods.length + 1) ((s'.prods ++ [pdMark]).flatMap PD.cs)
  prodsL : s'.prods.length = s.prods.length
  prodsC : s'.pc = s.prods.length + 1
  prodsR : PdF B w s.prods s'.prods s.prods.length
  lowL : ∀ k, (Value.slice s'.lA (s.lex.length + 1) (s.lex.length + 1)).ownBlock = some k → B ≤ k
  lowN : ∀ k, (Value.slice s'.nA (s.names.length + 1) (s.names.length + 1)).ownBlock = some k → B ≤ k
  lowP : ∀ k, (Value.slice s'.pA (s.prods.length + 1) (s.prods.length + 1)).ownBlock = some k → B ≤ k
theorem pf_53 : plainF Tryz.prog 53 = true := by kernel_rfl
theorem tA_9 : isAggT Tryz.prog 9 = some false := by kernel_rfl
theorem tF_66_0 : fieldT Tryz.prog 66 0 = some 0 := by kernel_rfl
theorem tF_66_2 : fieldT Tryz.prog 66 2 = some 2 := by kernel_rfl
theorem tP_26 : placesT Tryz.prog 26 = some #[(0, 1), (1, 1), (2, 1), (3, 1)] := by kernel_rfl
theorem tP_37 : placesT Tryz.prog 37 = some #[(0, 1), (1, 1)] := by kernel_rfl
theorem tP_66 : placesT Tryz.prog 66 = some #[(0, 1), (1, 1), (2, 6)] := by kernel_rfl
theorem tS_66 : sizeT Tryz.prog 66 = some 8 := by kernel_rfl
theorem tS_9 : sizeT Tryz.prog 9 = some 1 := by kernel_rfl
theorem tZ_26 : zeroOf Tryz.prog 26 = some (.agg #[(.slice none 0 0), (.slice none 0 0), (.int .i64 0), (.slice none 0 0)]) := by kernel_rfl
theorem tZ_66 : zeroOf Tryz.prog 66 = some (.agg #[(.string (⟨#[]⟩)), (.bool false), (.int .i64 0), (.int .i64 0), (.int .i64 0), (.int .i64 0), (.int .i64 0), (.slice none 0 0)]) := by kernel_rfl
theorem lend_calls (s : SP) (w : World) (hS : SpR w s) :
    Calls Tryz.prog 30 #[(.agg #[(.slice s.lA s.lex.length s.lc), (.slice s.nA s.names.length s.nc), (.int .i64 s.start), (.slice s.pA s.prods.length s.pc)])] w (Ret (fun v w' => ∃ s', v = .agg #[.slice s'.lA s'.lex.length s'.lc, .slice s'.nA s'.names.length s'.nc, .int .i64 s'.start, .slice s'.pA s'.prods.length s'.pc] ∧ LendR w.heap.size w' s s' ∧ Ext w w')) := by
  have hbl := hS.fl.by; have hbn := hS.fn.by; have hbp := hS.fp.by; have hnl := hS.fl.le; have hnn := hS.fn.le; have hnp := hS.fp.le
  refine calls_xc (n := 132) (f := fun s_ => [(.agg #[(.slice s.lA s.lex.length s.lc), (.slice s.nA s.names.length s.nc), (.int .i64 s.start), (.slice s.pA s.prods.length s.pc)])].getD s_ undef) Tryz.func30 rfl rfl (by simp) (fun s_ => by simp) ?_
  refine xc_seq ?_
  refine xc_region ?_
  refine xl_op (P := Tryz.prog) (some 1) rfl rfl (ox_box (v := (.agg #[(.slice s.lA s.lex.length s.lc), (.slice s.nA s.names.length s.nc), (.int .i64 s.start), (.slice s.pA s.prods.length s.pc)])) rfl ?_)
  intro w1 e1 z1 b1
  replace b1 : Blk w1 w.heap.size #[(.slice s.lA s.lex.length s.lc), (.slice s.nA s.names.length s.nc), (.int .i64 s.start), (.slice s.pA s.prods.length s.pc)] 26 := b1
  refine xl_op (P := Tryz.prog) (some 2) rfl rfl (ox_alloc tZ_26 ?_)
  intro w2 e2 z2 b2
  replace b2 : Blk w2 w1.heap.size #[(.slice none 0 0), (.slice none 0 0), (.int .i64 0), (.slice none 0 0)] 26 := b2
  refine xl_nil ?_
  refine xc_seq ?_
  refine xc_region ?_
  refine xl_op (P := Tryz.prog) (some 10) rfl rfl (ox_fieldAddr (b := w.heap.size) (o := 0) tF_26_0 rfl ?_)
  refine xl_op (P := Tryz.prog) (some 11) rfl rfl (ox_load (v := (.slice s.lA s.lex.length s.lc)) tA_22 rfl ((b1.ext e2).cell rfl) ?_)
  refine xl_op (P := Tryz.prog) (some 12) rfl rfl (ox_len (A := s.lA) (n := s.lex.length) (cp := s.lc) rfl tU_22 rfl ?_)
  refine xl_op (P := Tryz.prog) (some 13) rfl rfl (ox_add64 (a := (((s.lex.length : Nat) : Int))) (b := 1) rfl rfl (by omega) ?_)
  refine xl_op (P := Tryz.prog) (some 14) rfl rfl (ox_makeD (n := ((s.lex.length + 1))) (l := ((List.replicate (s.lex.length + 1) lrZero))) (cs := LR.cs) tE_22 rfl rfl (by omega) (by omega) (made_flat (z := #[(.string (⟨#[]⟩)), (.bool false), (.int .i64 0), (.int .i64 0), (.int .i64 0), (.int .i64 0), (.int .i64 0), (.slice none 0 0)]) (cs := LR.cs) (x := lrZero) rfl (by decide) _) ?_)
  intro A1 w3 o1 e3 lo1
  have he3 := e3.size
  refine xl_op (P := Tryz.prog) (some 3) rfl rfl (ox_assign (v := (.slice A1 ((s.lex.length + 1)) ((s.lex.length + 1)))) rfl ?_)
  refine xl_nil ?_
  refine xc_seq ?_
  refine xc_seq ?_
  refine xc_region ?_
  refine xl_op (P := Tryz.prog) (some 4) rfl rfl (ox_assign (v := (.int .i64 0)) rfl ?_)
  refine xl_nil ?_
  refine xc_block ?_
  have hlt1 : ∀ b, (Value.slice A1 (s.lex.length + 1) (s.lex.length + 1)).ownBlock = some b → b < w3.heap.size := o1.lt
  refine xc_loopN (fun m_ f_ Wx => ∃ (i : Nat) (L : List LR), m_ = s.lex.length - i ∧ (i ≤ s.lex.length) ∧ f_ 1 = (.pointer (some ⟨w.heap.size, 0, none⟩)) ∧ f_ 2 = (.pointer (some ⟨w1.heap.size, 0, none⟩)) ∧ f_ 3 = (.slice A1 ((s.lex.length + 1)) ((s.lex.length + 1))) ∧ f_ 4 = (.int .i64 ((i : Nat))) ∧ Vx.Own Wx 66 8 (.slice A1 ((s.lex.length + 1)) ((s.lex.length + 1))) ((s.lex.length + 1)) (L.flatMap LR.cs) ∧ (LxF w3.heap.size Wx s.lex L i) ∧ Chg (fun b => ((.slice A1 ((s.lex.length + 1)) ((s.lex.length + 1))) : Value).ownBlock = some b) w3 Wx) (s.lex.length) ?_ ?_
  · exact ⟨0, (List.replicate (s.lex.length + 1) lrZero), (by omega), (by omega), rfl, rfl, rfl, (by first | exact rfl | exact (congrArg (Value.int .i64) (by omega))), o1, (LxF.zero _ _ _ _), (Chg.refl _ _)⟩
  · rintro m_ f1 w4 ⟨i, L, hm_f1, hi, g1_f1, g2_f1, g3_f1, g4_f1, o0_f1, t0_f1, x1⟩
    have hx1 := x1.size
    have hl_L : L.length = (s.lex.length + 1) := by have _q := (o0_f1).len; rw [fm_len LR.len] at _q; omega
    refine xc_seq ?_
    refine xc_seq ?_
    refine xc_region ?_
    refine xl_op (P := Tryz.prog) (some 15) rfl rfl (ox_move (v := (.int .i64 ((i : Nat)))) g4_f1 ?_)
    refine xl_op (P := Tryz.prog) (some 16) rfl rfl (ox_fieldAddr (b := w.heap.size) (o := 0) tF_26_0 g1_f1 ?_)
    have q1 := (((b1.ext e2).ext e3).keep x1 (fun _h => o1.ne_blk ((b1.ext e2).ext e3) (by decide) _ _h rfl))
    refine xl_op (P := Tryz.prog) (some 17) rfl rfl (ox_load (v := (.slice s.lA s.lex.length s.lc)) tA_22 rfl (q1.cell rfl) ?_)
    refine xl_op (P := Tryz.prog) (some 18) rfl rfl (ox_len (A := s.lA) (n := s.lex.length) (cp := s.lc) rfl tU_22 rfl ?_)
    refine xl_op (P := Tryz.prog) (some 19) rfl rfl (ox_lss (k := .i64) (a := ((i : Nat))) (b := (((s.lex.length : Nat) : Int))) rfl rfl ?_)
    refine xl_nil ?_
    refine xc_if (p := ((i : Nat) : Int) < (((s.lex.length : Nat) : Int))) rfl (fun h1 => ?_) (fun h1 => ?_)
    · skip
      refine xc_skip ?_
      refine xc_seq ?_
      refine xc_block ?_
      refine xc_regionE [23] (fun W_ => Chg (fun _ => False) w4 W_) hmix ?_
      intro w5 e4 z4
      have hS1 : Chg (fun _ => False) w4 w5 := Ext.to e4
      refine xd_pure 0 (some 22) rfl rfl (by kernel_rfl) (v := (.slice A1 ((s.lex.length + 1)) ((s.lex.length + 1)))) (.inl ⟨rfl, fun W_ hW_ => ox_move (v := (.slice A1 ((s.lex.length + 1)) ((s.lex.length + 1)))) g3_f1 ⟨rfl, rfl⟩⟩) ?_
      refine xd_pure 1 (some 23) rfl rfl (by kernel_rfl) (v := (.int .i64 ((i : Nat)))) (.inl ⟨rfl, fun W_ hW_ => ox_move (v := (.int .i64 ((i : Nat)))) g4_f1 ⟨rfl, rfl⟩⟩) ?_
      refine xd_pure 2 (some 24) rfl rfl (by kernel_rfl) (v := (.pointer (some ⟨w.heap.size, 0, none⟩))) (.inl ⟨rfl, fun W_ hW_ => ox_fieldAddr (b := w.heap.size) (o := 0) tF_26_0 g1_f1 ⟨rfl, rfl⟩⟩) ?_
      refine xd_take 3 (some 25) rfl rfl (by kernel_rfl) (v := (.slice s.lA s.lex.length s.lc)) (.inl ⟨rfl, fun W_ hW_ => ox_load (v := (.slice s.lA s.lex.length s.lc)) tA_22 rfl ((q1.ext hW_).cell rfl) ⟨rfl, rfl⟩⟩) hS1 ?_
      refine xd_pure 4 (some 26) rfl rfl (by kernel_rfl) (v := (.int .i64 ((i : Nat)))) (.inl ⟨rfl, fun W_ hW_ => ox_move (v := (.int .i64 ((i : Nat)))) g4_f1 ⟨rfl, rfl⟩⟩) ?_
      have x2 : Ext w w4 := (Chg.trans (Ext.trans (Ext.trans e1 e2) e3) x1 (fun b hb hl => (absurd hl (by have _h := lo1 b hb; omega))))
      obtain ⟨x_1, g_1, o_1, hx_1⟩ := row_may (A := s.lA) (cs := LR.cs) i LR.len (by decide) (RowA.ext hS.lex x2)
      obtain ⟨hx_2, hA_1, hc_1⟩ := hx_1 (by first | omega | (simp only [List.length_drop, List.length_replicate, List.length_set, List.length_append, List.length_map, List.length_singleton] at *; omega))
      refine xd_pure 5 (some 27) rfl rfl (by kernel_rfl) (v := (.pointer (some ⟨g_1, o_1 + i * 8, none⟩))) (.inl ⟨rfl, fun W_ hW_ => ox_ixA (b := g_1) (o := o_1) (i := ((i : Nat))) i tE_22 hA_1 rfl rfl rfl (by omega) ⟨rfl, rfl⟩⟩) ?_
      refine xd_pure 6 (some 28) rfl rfl (by kernel_rfl) (v := (.pointer (some ⟨g_1, o_1 + i * 8, none⟩))) (.inl ⟨rfl, fun W_ hW_ => ox_fieldAddr (b := g_1) (o := (o_1 + i * 8)) tF_66_0 rfl ⟨rfl, rfl⟩⟩) ?_
      refine xd_take 7 (some 29) rfl rfl (by kernel_rfl) (v := (.string x_1.name)) (.inl ⟨rfl, fun W_ hW_ => ox_load (v := (.string x_1.name)) tA_9 rfl (CellsL.at1 (CellsL.keep hW_ not_false hc_1) 0 rfl) ⟨rfl, rfl⟩⟩) hS1 ?_
      refine xd_pure 8 (some 30) rfl rfl (by kernel_rfl) (v := (.pointer (some ⟨w.heap.size, 0, none⟩))) (.inl ⟨rfl, fun W_ hW_ => ox_fieldAddr (b := w.heap.size) (o := 0) tF_26_0 g1_f1 ⟨rfl, rfl⟩⟩) ?_
      refine xd_take 9 (some 31) rfl rfl (by kernel_rfl) (v := (.slice s.lA s.lex.length s.lc)) (.inl ⟨rfl, fun W_ hW_ => ox_load (v := (.slice s.lA s.lex.length s.lc)) tA_22 rfl ((q1.ext hW_).cell rfl) ⟨rfl, rfl⟩⟩) hS1 ?_
      refine xd_pure 10 (some 32) rfl rfl (by kernel_rfl) (v := (.int .i64 ((i : Nat)))) (.inl ⟨rfl, fun W_ hW_ => ox_move (v := (.int .i64 ((i : Nat)))) g4_f1 ⟨rfl, rfl⟩⟩) ?_
      refine xd_pure 11 (some 33) rfl rfl (by kernel_rfl) (v := (.pointer (some ⟨g_1, o_1 + i * 8, none⟩))) (.inl ⟨rfl, fun W_ hW_ => ox_ixA (b := g_1) (o := o_1) (i := ((i : Nat))) i tE_22 hA_1 rfl rfl rfl (by omega) ⟨rfl, rfl⟩⟩) ?_
      refine xd_pure 12 (some 34) rfl rfl (by kernel_rfl) (v := (.pointer (some ⟨g_1, o_1 + i * 8 + 1, none⟩))) (.inl ⟨rfl, fun W_ hW_ => ox_fieldAddr (b := g_1) (o := (o_1 + i * 8)) tF_66_1 rfl ⟨rfl, rfl⟩⟩) ?_
      refine xd_take 13 (some 35) rfl rfl (by kernel_rfl) (v := (.bool x_1.trivia)) (.inl ⟨rfl, fun W_ hW_ => ox_load (v := (.bool x_1.trivia)) tA_4 rfl (CellsL.at1 (CellsL.keep hW_ not_false hc_1) 1 rfl) ⟨rfl, rfl⟩⟩) hS1 ?_
      refine xd_pure 14 (some 36) rfl rfl (by kernel_rfl) (v := (.pointer (some ⟨w.heap.size, 0, none⟩))) (.inl ⟨rfl, fun W_ hW_ => ox_fieldAddr (b := w.heap.size) (o := 0) tF_26_0 g1_f1 ⟨rfl, rfl⟩⟩) ?_
      refine xd_take 15 (some 37) rfl rfl (by kernel_rfl) (v := (.slice s.lA s.lex.length s.lc)) (.inl ⟨rfl, fun W_ hW_ => ox_load (v := (.slice s.lA s.lex.length s.lc)) tA_22 rfl ((q1.ext hW_).cell rfl) ⟨rfl, rfl⟩⟩) hS1 ?_
      refine xd_pure 16 (some 38) rfl rfl (by kernel_rfl) (v := (.int .i64 ((i : Nat)))) (.inl ⟨rfl, fun W_ hW_ => ox_move (v := (.int .i64 ((i : Nat)))) g4_f1 ⟨rfl, rfl⟩⟩) ?_
      refine xd_pure 17 (some 39) rfl rfl (by kernel_rfl) (v := (.pointer (some ⟨g_1, o_1 + i * 8, none⟩))) (.inl ⟨rfl, fun W_ hW_ => ox_ixA (b := g_1) (o := o_1) (i := ((i : Nat))) i tE_22 hA_1 rfl rfl rfl (by omega) ⟨rfl, rfl⟩⟩) ?_
      refine xd_pure 18 (some 40) rfl rfl (by kernel_rfl) (v := (.pointer (some ⟨g_1, o_1 + i * 8 + 2, none⟩))) (.inl ⟨rfl, fun W_ hW_ => ox_fieldAddr (b := g_1) (o := (o_1 + i * 8)) tF_66_2 rfl ⟨rfl, rfl⟩⟩) ?_
      refine xd_take 19 (some 41) rfl rfl (by kernel_rfl) (v := (.agg #[(.int .i64 x_1.e.kind), (.int .i64 x_1.e.frm), (.int .i64 x_1.e.to), (.int .i64 x_1.e.min), (.int .i64 x_1.e.max), (.slice x_1.e.A x_1.e.list.length x_1.e.c)])) (.inl ⟨rfl, fun W_ hW_ => ox_loadN (vs := [(.int .i64 x_1.e.kind), (.int .i64 x_1.e.frm), (.int .i64 x_1.e.to), (.int .i64 x_1.e.min), (.int .i64 x_1.e.max), (.slice x_1.e.A x_1.e.list.length x_1.e.c)]) tA_64 tS_64 rfl rfl (CellsL.sub (CellsL.keep hW_ not_false hc_1) 2 6 rfl) ⟨rfl, rfl⟩⟩) hS1 ?_
      have x3 : Ext w w5 := (Ext.trans x2 e4)
      refine xd_one 20 (some 42) rfl rfl (by kernel_rfl) rfl (ox_callE (al := [(.agg #[(.int .i64 x_1.e.kind), (.int .i64 x_1.e.frm), (.int .i64 x_1.e.to), (.int .i64 x_1.e.min), (.int .i64 x_1.e.max), (.slice x_1.e.A x_1.e.list.length x_1.e.c)])]) pf_53 rfl (ret_mono (twinExpr_calls x_1.e w5 ((hS.ex _ (List.mem_of_getElem? hx_2)).ext x3)) ?_))
      rintro _ w6 ⟨y_1, rfl, ht1, e5⟩
      have he5 := e5.size
      have hS2 : Chg (fun _ => False) w4 w6 := Chg.ext hS1 e5
      refine ⟨.inr fun _ => hS2, ?_⟩
      refine xd_pure 21 (some 43) rfl rfl (by kernel_rfl) (v := (.agg #[(.string x_1.name), (.bool x_1.trivia), (.int .i64 y_1.kind), (.int .i64 y_1.frm), (.int .i64 y_1.to), (.int .i64 y_1.min), (.int .i64 y_1.max), (.slice y_1.A y_1.list.length y_1.c)])) (.inl ⟨rfl, fun W_ hW_ => ox_mkStruct (ps := [(0, (.string x_1.name)), (1, (.bool x_1.trivia)), (2, (.agg #[(.int .i64 y_1.kind), (.int .i64 y_1.frm), (.int .i64 y_1.to), (.int .i64 y_1.min), (.int .i64 y_1.max), (.slice y_1.A y_1.list.length y_1.c)]))]) (cs := #[(.string x_1.name), (.bool x_1.trivia), (.int .i64 y_1.kind), (.int .i64 y_1.frm), (.int .i64 y_1.to), (.int .i64 y_1.min), (.int .i64 y_1.max), (.slice y_1.A y_1.list.length y_1.c)]) tZ_66 tP_66 rfl (by kernel_rfl) ⟨rfl, rfl⟩⟩) ?_
      obtain ⟨x_2, g_2, hx_3⟩ := own_may (A := A1) i LR.len (by decide) o0_f1
      obtain ⟨hx_4, hA_2, hc_2⟩ := hx_3 (by first | omega | (simp only [List.length_drop, List.length_replicate, List.length_set, List.length_append, List.length_map, List.length_singleton] at *; omega))
      refine xd_pure 22 (some 44) rfl rfl (by kernel_rfl) (v := (.pointer (some ⟨g_2, 0 + i * 8, none⟩))) (.inl ⟨rfl, fun W_ hW_ => ox_ixA (b := g_2) (o := 0) (i := ((i : Nat))) i tE_22 hA_2 rfl rfl rfl (by omega) ⟨rfl, rfl⟩⟩) ?_
      have x4 : Ext w4 w6 := (Ext.trans e4 e5)
      refine xd_one 23 none rfl rfl (by kernel_rfl) rfl (ox_stE (i := i) (off := 0) (vs := [(.string x_1.name), (.bool x_1.trivia), (.int .i64 y_1.kind), (.int .i64 y_1.frm), (.int .i64 y_1.to), (.int .i64 y_1.min), (.int .i64 y_1.max), (.slice y_1.A y_1.list.length y_1.c)]) (b := ((LR.mk x_1.name x_1.trivia y_1) : LR)) LR.len tS_66 hA_2 rfl (v := (.agg #[(.string x_1.name), (.bool x_1.trivia), (.int .i64 y_1.kind), (.int .i64 y_1.frm), (.int .i64 y_1.to), (.int .i64 y_1.min), (.int .i64 y_1.max), (.slice y_1.A y_1.list.length y_1.c)])) rfl rfl rfl rfl ((o0_f1.ext e4).ext e5) hx_4 rfl (by decide) (by omega) ?_)
      intro w7 e6 z5 o2
      refine ⟨.inl (by decide), ?_⟩
      refine xd_done (by kernel_rfl) ?_ _
      refine xc_region ?_
      refine xl_op (P := Tryz.prog) (some 20) rfl rfl (ox_move (v := (.int .i64 ((i : Nat)))) g4_f1 ?_)
      refine xl_op (P := Tryz.prog) (some 21) rfl rfl (ox_add64 (a := ((i : Nat))) (b := 1) rfl rfl (by omega) ?_)
      refine xl_op (P := Tryz.prog) (some 4) rfl rfl (ox_assign (v := (.int .i64 ((i : Nat) + 1))) rfl ?_)
      refine xl_nil ?_
      have y1 : Chg (fun b => ((.slice A1 ((s.lex.length + 1)) ((s.lex.length + 1))) : Value).ownBlock = some b) w3 w7 := (Chg.trans (Chg.ext (Chg.ext (Chg.trans (Chg.refl (fun b => ((.slice A1 ((s.lex.length + 1)) ((s.lex.length + 1))) : Value).ownBlock = some b) w3) x1 (fun b hb hl => hb)) e4) e5) e6 (fun b hb hl => hb))
      exact ⟨rfl, s.lex.length - (i + 1), by omega, i + 1, (L.set i ((LR.mk x_1.name x_1.trivia y_1))), by omega, (by omega), g1_f1, g2_f1, g3_f1, (by first | exact rfl | exact (congrArg (Value.int .i64) (by omega))), o2, (LxF.snoc (LxF.keep (LxF.ext t0_f1 x4) e6 hlt1) hx_2 ⟨rfl, rfl, (TwX.keep (TwX.mono (by omega) ht1) e6 hlt1)⟩ (by omega)), y1⟩
    · skip
      refine xc_exit ?_
      refine xc_seq ?_
      refine xc_region ?_
      refine xl_op (P := Tryz.prog) (some 45) rfl rfl (ox_move (v := (.slice A1 ((s.lex.length + 1)) ((s.lex.length + 1)))) g3_f1 ?_)
      refine xl_op (P := Tryz.prog) (some 46) rfl rfl (ox_fieldAddr (b := w.heap.size) (o := 0) tF_26_0 g1_f1 ?_)
      refine xl_op (P := Tryz.prog) (some 47) rfl rfl (ox_load (v := (.slice s.lA s.lex.length s.lc)) tA_22 rfl (q1.cell rfl) ?_)
      refine xl_op (P := Tryz.prog) (some 48) rfl rfl (ox_len (A := s.lA) (n := s.lex.length) (cp := s.lc) rfl tU_22 rfl ?_)
      refine xl_op (P := Tryz.prog) (some 49) rfl rfl (ox_mkStruct (ps := [(0, (.string (⟨#[109, 97, 114, 107]⟩)))]) (cs := #[(.string (⟨#[109, 97, 114, 107]⟩)), (.bool false), (.int .i64 0), (.int .i64 0), (.int .i64 0), (.int .i64 0), (.int .i64 0), (.slice none 0 0)]) tZ_66 tP_66 rfl (by kernel_rfl) ?_)
      obtain ⟨x_3, g_3, hx_5⟩ := own_may (A := A1) s.lex.length LR.len (by decide) o0_f1
      obtain ⟨hx_6, hA_3, hc_3⟩ := hx_5 (by first | omega | (simp only [List.length_drop, List.length_replicate, List.length_set, List.length_append, List.length_map, List.length_singleton] at *; omega))
      refine xl_op (P := Tryz.prog) (some 50) rfl rfl (ox_ixA (b := g_3) (o := 0) (i := (((s.lex.length : Nat) : Int))) s.lex.length tE_22 hA_3 rfl rfl rfl (by omega) ?_)
      refine xl_op (P := Tryz.prog) none rfl rfl (ox_stE (i := s.lex.length) (off := 0) (vs := [(.string (⟨#[109, 97, 114, 107]⟩)), (.bool false), (.int .i64 0), (.int .i64 0), (.int .i64 0), (.int .i64 0), (.int .i64 0), (.slice none 0 0)]) (b := ((LR.mk (⟨#[109, 97, 114, 107]⟩) false (EX.mk 0 0 0 0 0 none 0 [])) : LR)) LR.len tS_66 hA_3 rfl (v := (.agg #[(.string (⟨#[109, 97, 114, 107]⟩)), (.bool false), (.int .i64 0), (.int .i64 0), (.int .i64 0), (.int .i64 0), (.int .i64 0), (.slice none 0 0)])) rfl rfl rfl rfl o0_f1 hx_6 rfl (by decide) (by omega) ?_)
      intro w8 e7 z6 o3
      refine xl_nil ?_
      refine xc_seq ?_
      refine xc_region ?_
      refine xl_op (P := Tryz.prog) (some 51) rfl rfl (ox_fieldAddr (b := w.heap.size) (o := 0) tF_26_1 g1_f1 ?_)
      have q2 := (q1.keep e7 (fun _h => o0_f1.ne_blk q1 (by decide) _ _h rfl))
      refine xl_op (P := Tryz.prog) (some 52) rfl rfl (ox_load (v := (.slice s.nA s.names.length s.nc)) tA_23 rfl (q2.cell rfl) ?_)
      refine xl_op (P := Tryz.prog) (some 53) rfl rfl (ox_len (A := s.nA) (n := s.names.length) (cp := s.nc) rfl tU_23 rfl ?_)
      refine xl_op (P := Tryz.prog) (some 54) rfl rfl (ox_add64 (a := (((s.names.length : Nat) : Int))) (b := 1) rfl rfl (by omega) ?_)
      refine xl_op (P := Tryz.prog) (some 55) rfl rfl (ox_makeD (n := ((s.names.length + 1))) (l := ((List.replicate (s.names.length + 1) (⟨#[]⟩ : ByteArray)))) (cs := strs) tE_23 rfl rfl (by omega) (by omega) (made_flat (z := #[(.string (⟨#[]⟩))]) (cs := strs) (x := ⟨#[]⟩) rfl (by decide) _) ?_)
      intro A2 w9 o4 e8 lo2
      have he8 := e8.size
      refine xl_op (P := Tryz.prog) (some 5) rfl rfl (ox_assign (v := (.slice A2 ((s.names.length + 1)) ((s.names.length + 1)))) rfl ?_)
      refine xl_nil ?_
      refine xc_seq ?_
      refine xc_region ?_
      refine xl_op (P := Tryz.prog) (some 56) rfl rfl (ox_move (v := (.slice A2 ((s.names.length + 1)) ((s.names.length + 1)))) rfl ?_)
      refine xl_op (P := Tryz.prog) (some 57) rfl rfl (ox_fieldAddr (b := w.heap.size) (o := 0) tF_26_1 g1_f1 ?_)
      refine xl_op (P := Tryz.prog) (some 58) rfl rfl (ox_load (v := (.slice s.nA s.names.length s.nc)) tA_23 rfl ((q2.ext e8).cell rfl) ?_)
      have x5 : Ext w w9 := (Ext.trans (Chg.trans (Chg.trans (Ext.trans (Ext.trans e1 e2) e3) x1 (fun b hb hl => (absurd hl (by have _h := lo1 b hb; omega)))) e7 (fun b hb hl => (absurd hl (by have _h := lo1 b hb; omega)))) e8)
      refine xl_op (P := Tryz.prog) (some 59) rfl rfl (ox_copyD (cs := strs) (L := ((List.replicate (s.names.length + 1) (⟨#[]⟩ : ByteArray)))) (r := s.names) rfl tE_23 (by decide) strs_len strs_one rfl rfl o4 (RowA.ext hS.names x5) (by omega) ?_)
      intro w10 e9 z8 o5
      have he9 := e9.size
      refine xl_nil ?_
      refine xc_seq ?_
      refine xc_region ?_
      refine xl_op (P := Tryz.prog) (some 60) rfl rfl (ox_move (v := (.slice A2 ((s.names.length + 1)) ((s.names.length + 1)))) rfl ?_)
      refine xl_op (P := Tryz.prog) (some 61) rfl rfl (ox_fieldAddr (b := w.heap.size) (o := 0) tF_26_1 g1_f1 ?_)
      have q3 := ((q2.ext e8).keep e9 (fun _h => o4.ne_blk (q2.ext e8) (by decide) _ _h rfl))
      refine xl_op (P := Tryz.prog) (some 62) rfl rfl (ox_load (v := (.slice s.nA s.names.length s.nc)) tA_23 rfl (q3.cell rfl) ?_)
      refine xl_op (P := Tryz.prog) (some 63) rfl rfl (ox_len (A := s.nA) (n := s.names.length) (cp := s.nc) rfl tU_23 rfl ?_)
      obtain ⟨x_4, g_4, hx_7⟩ := own_may (A := A2) s.names.length strs_len (by decide) o5
      obtain ⟨hx_8, hA_4, hc_4⟩ := hx_7 (by first | omega | (simp only [List.length_drop, List.length_replicate, List.length_set, List.length_append, List.length_map, List.length_singleton] at *; omega))
      refine xl_op (P := Tryz.prog) (some 64) rfl rfl (ox_ixA (b := g_4) (o := 0) (i := (((s.names.length : Nat) : Int))) s.names.length tE_23 hA_4 rfl rfl rfl (by omega) ?_)
      refine xl_op (P := Tryz.prog) none rfl rfl (ox_stE (i := s.names.length) (off := 0) (vs := [(.string (⟨#[109, 97, 114, 107]⟩))]) (b := ((⟨#[109, 97, 114, 107]⟩) : ByteArray)) strs_len tS_9 hA_4 rfl (v := (.string (⟨#[109, 97, 114, 107]⟩))) rfl rfl rfl rfl o5 hx_8 rfl (by decide) (by omega) ?_)
      intro w11 e10 z9 o6
      refine xl_nil ?_
      refine xc_seq ?_
      refine xc_region ?_
      refine xl_op (P := Tryz.prog) (some 65) rfl rfl (ox_fieldAddr (b := w.heap.size) (o := 0) tF_26_3 g1_f1 ?_)
      have q4 := (q3.keep e10 (fun _h => o5.ne_blk q3 (by decide) _ _h rfl))
      refine xl_op (P := Tryz.prog) (some 66) rfl rfl (ox_load (v := (.slice s.pA s.prods.length s.pc)) tA_24 rfl (q4.cell rfl) ?_)
      refine xl_op (P := Tryz.prog) (some 67) rfl rfl (ox_len (A := s.pA) (n := s.prods.length) (cp := s.pc) rfl tU_24 rfl ?_)
      refine xl_op (P := Tryz.prog) (some 68) rfl rfl (ox_add64 (a := (((s.prods.length : Nat) : Int))) (b := 1) rfl rfl (by omega) ?_)
      refine xl_op (P := Tryz.prog) (some 69) rfl rfl (ox_makeD (n := ((s.prods.length + 1))) (l := ((List.replicate (s.prods.length + 1) pdZero))) (cs := PD.cs) tE_24 rfl rfl (by omega) (by omega) (made_flat (z := #[(.int .i64 0), (.slice none 0 0)]) (cs := PD.cs) (x := pdZero) rfl (by decide) _) ?_)
      intro A3 w12 o7 e11 lo3
      have he11 := e11.size
      refine xl_op (P := Tryz.prog) (some 6) rfl rfl (ox_assign (v := (.slice A3 ((s.prods.length + 1)) ((s.prods.length + 1)))) rfl ?_)
      refine xl_nil ?_
      refine xc_seq ?_
      refine xc_seq ?_
      refine xc_region ?_
      refine xl_op (P := Tryz.prog) (some 7) rfl rfl (ox_assign (v := (.int .i64 0)) rfl ?_)
      refine xl_nil ?_
      refine xc_block ?_
      have hlt2 : ∀ b, (Value.slice A3 (s.prods.length + 1) (s.prods.length + 1)).ownBlock = some b → b < w12.heap.size := o7.lt
      refine xc_loopN (fun m_ f_ Wx => ∃ (k : Nat) (M : List PD), m_ = s.prods.length - k ∧ (k ≤ s.prods.length) ∧ f_ 1 = (.pointer (some ⟨w.heap.size, 0, none⟩)) ∧ f_ 2 = (.pointer (some ⟨w1.heap.size, 0, none⟩)) ∧ f_ 3 = (.slice A1 ((s.lex.length + 1)) ((s.lex.length + 1))) ∧ f_ 4 = (.int .i64 ((i : Nat))) ∧ f_ 15 = (.int .i64 ((i : Nat))) ∧ f_ 16 = (.pointer (some ⟨w.heap.size, 0, none⟩)) ∧ f_ 17 = (.slice s.lA s.lex.length s.lc) ∧ f_ 18 = (.int .i64 (((s.lex.length : Nat) : Int))) ∧ f_ 19 = (.bool (decide (((i : Nat) : Int) < (((s.lex.length : Nat) : Int))))) ∧ f_ 45 = (.slice A1 ((s.lex.length + 1)) ((s.lex.length + 1))) ∧ f_ 46 = (.pointer (some ⟨w.heap.size, 0, none⟩)) ∧ f_ 47 = (.slice s.lA s.lex.length s.lc) ∧ f_ 48 = (.int .i64 (((s.lex.length : Nat) : Int))) ∧ f_ 49 = (.agg #[(.string (⟨#[109, 97, 114, 107]⟩)), (.bool false), (.int .i64 0), (.int .i64 0), (.int .i64 0), (.int .i64 0), (.int .i64 0), (.slice none 0 0)]) ∧ f_ 50 = (.pointer (some ⟨g_3, 0 + s.lex.length * 8, none⟩)) ∧ f_ 51 = (.pointer (some ⟨w.heap.size, 1, none⟩)) ∧ f_ 52 = (.slice s.nA s.names.length s.nc) ∧ f_ 53 = (.int .i64 (((s.names.length : Nat) : Int))) ∧ f_ 54 = (.int .i64 (((s.names.length : Nat) : Int) + 1)) ∧ f_ 55 = (.slice A2 ((s.names.length + 1)) ((s.names.length + 1))) ∧ f_ 5 = (.slice A2 ((s.names.length + 1)) ((s.names.length + 1))) ∧ f_ 56 = (.slice A2 ((s.names.length + 1)) ((s.names.length + 1))) ∧ f_ 57 = (.pointer (some ⟨w.heap.size, 1, none⟩)) ∧ f_ 58 = (.slice s.nA s.names.length s.nc) ∧ f_ 60 = (.slice A2 ((s.names.length + 1)) ((s.names.length + 1))) ∧ f_ 61 = (.pointer (some ⟨w.heap.size, 1, none⟩)) ∧ f_ 62 = (.slice s.nA s.names.length s.nc) ∧ f_ 63 = (.int .i64 (((s.names.length : Nat) : Int))) ∧ f_ 64 = (.pointer (some ⟨g_4, 0 + s.names.length * 1, none⟩)) ∧ f_ 65 = (.pointer (some ⟨w.heap.size, 3, none⟩)) ∧ f_ 66 = (.slice s.pA s.prods.length s.pc) ∧ f_ 67 = (.int .i64 (((s.prods.length : Nat) : Int))) ∧ f_ 68 = (.int .i64 (((s.prods.length : Nat) : Int) + 1)) ∧ f_ 69 = (.slice A3 ((s.prods.length + 1)) ((s.prods.length + 1))) ∧ f_ 6 = (.slice A3 ((s.prods.length + 1)) ((s.prods.length + 1))) ∧ f_ 7 = (.int .i64 ((k : Nat))) ∧ Vx.Own Wx 37 2 (.slice A3 ((s.prods.length + 1)) ((s.prods.length + 1))) ((s.prods.length + 1)) (M.flatMap PD.cs) ∧ (PdF w12.heap.size Wx s.prods M k) ∧ Chg (fun b => ((.slice A3 ((s.prods.length + 1)) ((s.prods.length + 1))) : Value).ownBlock = some b) w12 Wx) (s.prods.length) ?_ ?_
      · exact ⟨0, (List.replicate (s.prods.length + 1) pdZero), (by omega), (by omega), g1_f1, g2_f1, g3_f1, g4_f1, rfl, rfl, rfl, rfl, rfl, rfl, rfl, rfl, rfl, rfl, rfl, rfl, rfl, rfl, rfl, rfl, rfl, rfl, rfl, rfl, rfl, rfl, rfl, rfl, rfl, rfl, rfl, rfl, rfl, rfl, rfl, (by first | exact rfl | exact (congrArg (Value.int .i64) (by omega))), o7, (PdF.zero _ _ _ _), (Chg.refl _ _)⟩
      · rintro m_ f2 w13 ⟨k, M, hm_f2, hk, g1_f2, g2_f2, g3_f2, g4_f2, g15_f2, g16_f2, g17_f2, g18_f2, g19_f2, g45_f2, g46_f2, g47_f2, g48_f2, g49_f2, g50_f2, g51_f2, g52_f2, g53_f2, g54_f2, g55_f2, g5_f2, g56_f2, g57_f2, g58_f2, g60_f2, g61_f2, g62_f2, g63_f2, g64_f2, g65_f2, g66_f2, g67_f2, g68_f2, g69_f2, g6_f2, g7_f2, o0_f2, t0_f2, x6⟩
        have hx6 := x6.size
        have hl_M : M.length = (s.prods.length + 1) := by have _q := (o0_f2).len; rw [fm_len PD.len] at _q; omega
        refine xc_seq ?_
        refine xc_seq ?_
        refine xc_region ?_
        refine xl_op (P := Tryz.prog) (some 70) rfl rfl (ox_move (v := (.int .i64 ((k : Nat)))) g7_f2 ?_)
        refine xl_op (P := Tryz.prog) (some 71) rfl rfl (ox_fieldAddr (b := w.heap.size) (o := 0) tF_26_3 g1_f2 ?_)
        have q5 := ((q4.ext e11).keep x6 (fun _h => o7.ne_blk (q4.ext e11) (by decide) _ _h rfl))
        refine xl_op (P := Tryz.prog) (some 72) rfl rfl (ox_load (v := (.slice s.pA s.prods.length s.pc)) tA_24 rfl (q5.cell rfl) ?_)
        refine xl_op (P := Tryz.prog) (some 73) rfl rfl (ox_len (A := s.pA) (n := s.prods.length) (cp := s.pc) rfl tU_24 rfl ?_)
        refine xl_op (P := Tryz.prog) (some 74) rfl rfl (ox_lss (k := .i64) (a := ((k : Nat))) (b := (((s.prods.length : Nat) : Int))) rfl rfl ?_)
        refine xl_nil ?_
        refine xc_if (p := ((k : Nat) : Int) < (((s.prods.length : Nat) : Int))) rfl (fun h2 => ?_) (fun h2 => ?_)
        · skip
          refine xc_skip ?_
          refine xc_seq ?_
          refine xc_block ?_
          refine xc_seq ?_
          refine xc_region ?_
          refine xl_op (P := Tryz.prog) (some 77) rfl rfl (ox_fieldAddr (b := w.heap.size) (o := 0) tF_26_3 g1_f2 ?_)
          refine xl_op (P := Tryz.prog) (some 78) rfl rfl (ox_load (v := (.slice s.pA s.prods.length s.pc)) tA_24 rfl (q5.cell rfl) ?_)
          refine xl_op (P := Tryz.prog) (some 79) rfl rfl (ox_move (v := (.int .i64 ((k : Nat)))) g7_f2 ?_)
          have x7 : Ext w w13 := (Chg.trans (Ext.trans (Chg.trans (Chg.trans x5 e9 (fun b hb hl => (absurd hl (by have _h := lo2 b hb; omega)))) e10 (fun b hb hl => (absurd hl (by have _h := lo2 b hb; omega)))) e11) x6 (fun b hb hl => (absurd hl (by have _h := lo3 b hb; omega))))
          obtain ⟨x_5, g_5, o_5, hx_9⟩ := row_may (A := s.pA) (cs := PD.cs) k PD.len (by decide) (RowA.ext hS.prods x7)
          obtain ⟨hx_10, hA_5, hc_5⟩ := hx_9 (by first | omega | (simp only [List.length_drop, List.length_replicate, List.length_set, List.length_append, List.length_map, List.length_singleton] at *; omega))
          have hfr_x_5 := (hS.fr _ (List.mem_of_getElem? hx_10)).le
          refine xl_op (P := Tryz.prog) (some 80) rfl rfl (ox_ixA (b := g_5) (o := o_5) (i := ((k : Nat))) k tE_24 hA_5 rfl rfl rfl (by omega) ?_)
          refine xl_op (P := Tryz.prog) (some 81) rfl rfl (ox_loadN (vs := [(.int .i64 x_5.left), (.slice x_5.rA x_5.right.length x_5.rc)]) tA_37 tS_37 rfl rfl hc_5 ?_)
          refine xl_op (P := Tryz.prog) (some 8) rfl rfl (ox_alloc tZ_37 ?_)
          intro w14 e12 z11 b3
          replace b3 : Blk w14 w13.heap.size #[(.int .i64 0), (.slice none 0 0)] 37 := b3
          refine xl_op (P := Tryz.prog) none rfl rfl (ox_store (n := 2) (vs := [(.int .i64 x_5.left), (.slice x_5.rA x_5.right.length x_5.rc)]) tS_37 rfl (v := (.agg #[(.int .i64 x_5.left), (.slice x_5.rA x_5.right.length x_5.rc)])) rfl rfl rfl rfl b3 (Nat.le_of_ble_eq_true rfl) ?_)
          intro w15 e13 z12 b4
          replace b4 : Blk w15 w13.heap.size #[(.int .i64 x_5.left), (.slice x_5.rA x_5.right.length x_5.rc)] 37 := blk_full b4 rfl
          refine xl_nil ?_
          refine xc_seq ?_
          refine xc_region ?_
          refine xl_op (P := Tryz.prog) (some 82) rfl rfl (ox_fieldAddr (b := w13.heap.size) (o := 0) tF_37_1 rfl ?_)
          refine xl_op (P := Tryz.prog) (some 83) rfl rfl (ox_load (v := (.slice x_5.rA x_5.right.length x_5.rc)) tA_33 rfl (b4.cell rfl) ?_)
          refine xl_op (P := Tryz.prog) (some 84) rfl rfl (ox_len (A := x_5.rA) (n := x_5.right.length) (cp := x_5.rc) rfl tU_33 rfl ?_)
          refine xl_op (P := Tryz.prog) (some 85) rfl rfl (ox_add64 (a := (((x_5.right.length : Nat) : Int))) (b := 1) rfl rfl (by omega) ?_)
          refine xl_op (P := Tryz.prog) (some 86) rfl rfl (ox_makeD (n := ((x_5.right.length + 1))) (l := ((List.replicate (x_5.right.length + 1) (⟨0, 0⟩ : Sym)))) (cs := Sym.cs) tE_33 rfl rfl (by omega) (by omega) (made_flat (z := #[(.int .i64 0), (.int .i64 0)]) (cs := Sym.cs) (x := ⟨0, 0⟩) rfl (by decide) _) ?_)
          intro A4 w16 o8 e14 lo4
          have he14 := e14.size
          refine xl_op (P := Tryz.prog) (some 9) rfl rfl (ox_assign (v := (.slice A4 ((x_5.right.length + 1)) ((x_5.right.length + 1)))) rfl ?_)
          refine xl_nil ?_
          refine xc_seq ?_
          refine xc_region ?_
          refine xl_op (P := Tryz.prog) (some 87) rfl rfl (ox_move (v := (.slice A4 ((x_5.right.length + 1)) ((x_5.right.length + 1)))) rfl ?_)
          refine xl_op (P := Tryz.prog) (some 88) rfl rfl (ox_fieldAddr (b := w13.heap.size) (o := 0) tF_37_1 rfl ?_)
          refine xl_op (P := Tryz.prog) (some 89) rfl rfl (ox_load (v := (.slice x_5.rA x_5.right.length x_5.rc)) tA_33 rfl ((b4.ext e14).cell rfl) ?_)
          have x8 : Ext w w16 := (Ext.trans (Ext.chg1 (Ext.trans x7 e12) e13 (by omega)) e14)
          refine xl_op (P := Tryz.prog) (some 90) rfl rfl (ox_copyD (cs := Sym.cs) (L := ((List.replicate (x_5.right.length + 1) (⟨0, 0⟩ : Sym)))) (r := x_5.right) rfl tE_33 (by decide) Sym.len Sym.one rfl rfl o8 (RowA.ext ((hS.right _ (List.mem_of_getElem? hx_10))) x8) (by omega) ?_)
          intro w17 e15 z14 o9
          have he15 := e15.size
          refine xl_nil ?_
          refine xc_seq ?_
          refine xc_region ?_
          refine xl_op (P := Tryz.prog) (some 91) rfl rfl (ox_move (v := (.slice A4 ((x_5.right.length + 1)) ((x_5.right.length + 1)))) rfl ?_)
          refine xl_op (P := Tryz.prog) (some 92) rfl rfl (ox_fieldAddr (b := w13.heap.size) (o := 0) tF_37_1 rfl ?_)
          have q6 := ((b4.ext e14).keep e15 (fun _h => o8.ne_blk (b4.ext e14) (by decide) _ _h rfl))
          refine xl_op (P := Tryz.prog) (some 93) rfl rfl (ox_load (v := (.slice x_5.rA x_5.right.length x_5.rc)) tA_33 rfl (q6.cell rfl) ?_)
          refine xl_op (P := Tryz.prog) (some 94) rfl rfl (ox_len (A := x_5.rA) (n := x_5.right.length) (cp := x_5.rc) rfl tU_33 rfl ?_)
          refine xl_op (P := Tryz.prog) (some 95) rfl rfl (ox_mkStruct (ps := [(0, (.int .i64 77))]) (cs := #[(.int .i64 77), (.int .i64 0)]) tZ_32 tP_32 rfl (by kernel_rfl) ?_)
          obtain ⟨x_6, g_6, hx_11⟩ := own_may (A := A4) x_5.right.length Sym.len (by decide) o9
          obtain ⟨hx_12, hA_6, hc_6⟩ := hx_11 (by first | omega | (simp only [List.length_drop, List.length_replicate, List.length_set, List.length_append, List.length_map, List.length_singleton] at *; omega))
          refine xl_op (P := Tryz.prog) (some 96) rfl rfl (ox_ixA (b := g_6) (o := 0) (i := (((x_5.right.length : Nat) : Int))) x_5.right.length tE_33 hA_6 rfl rfl rfl (by omega) ?_)
          refine xl_op (P := Tryz.prog) none rfl rfl (ox_stE (i := x_5.right.length) (off := 0) (vs := [(.int .i64 77), (.int .i64 0)]) (b := ((⟨77, 0⟩ : Sym) : Sym)) Sym.len tS_32 hA_6 rfl (v := (.agg #[(.int .i64 77), (.int .i64 0)])) rfl rfl rfl rfl o9 hx_12 rfl (by decide) (by omega) ?_)
          intro w18 e16 z15 o10
          refine xl_nil ?_
          refine xc_regionE [11] (fun W_ => Chg (fun _ => False) w18 W_) hmix ?_
          intro w19 e17 z16
          have hS3 : Chg (fun _ => False) w18 w19 := Ext.to e17
          refine xd_pure 0 (some 97) rfl rfl (by kernel_rfl) (v := (.slice A3 ((s.prods.length + 1)) ((s.prods.length + 1)))) (.inl ⟨rfl, fun W_ hW_ => ox_move (v := (.slice A3 ((s.prods.length + 1)) ((s.prods.length + 1)))) g6_f2 ⟨rfl, rfl⟩⟩) ?_
          refine xd_pure 1 (some 98) rfl rfl (by kernel_rfl) (v := (.int .i64 ((k : Nat)))) (.inl ⟨rfl, fun W_ hW_ => ox_move (v := (.int .i64 ((k : Nat)))) g7_f2 ⟨rfl, rfl⟩⟩) ?_
          refine xd_pure 2 (some 99) rfl rfl (by kernel_rfl) (v := (.pointer (some ⟨w13.heap.size, 0, none⟩))) (.inl ⟨rfl, fun W_ hW_ => ox_fieldAddr (b := w13.heap.size) (o := 0) tF_37_0 rfl ⟨rfl, rfl⟩⟩) ?_
          have q7 := (q6.keep e16 (fun _h => o9.ne_blk q6 (by decide) _ _h rfl))
          refine xd_take 3 (some 100) rfl rfl (by kernel_rfl) (v := (.int .i64 x_5.left)) (.inl ⟨rfl, fun W_ hW_ => ox_load (v := (.int .i64 x_5.left)) tA_3 rfl ((q7.ext hW_).cell rfl) ⟨rfl, rfl⟩⟩) hS3 ?_
          refine xd_pure 4 (some 101) rfl rfl (by kernel_rfl) (v := (.slice A4 ((x_5.right.length + 1)) ((x_5.right.length + 1)))) (.inl ⟨rfl, fun W_ hW_ => ox_move (v := (.slice A4 ((x_5.right.length + 1)) ((x_5.right.length + 1)))) rfl ⟨rfl, rfl⟩⟩) ?_
          refine xd_pure 5 (some 102) rfl rfl (by kernel_rfl) (v := (.pointer (some ⟨w13.heap.size, 1, none⟩))) (.inl ⟨rfl, fun W_ hW_ => ox_fieldAddr (b := w13.heap.size) (o := 0) tF_37_1 rfl ⟨rfl, rfl⟩⟩) ?_
          have q8 := (q6.keep e16 (fun _h => o9.ne_blk q6 (by decide) _ _h rfl))
          refine xd_take 6 (some 103) rfl rfl (by kernel_rfl) (v := (.slice x_5.rA x_5.right.length x_5.rc)) (.inl ⟨rfl, fun W_ hW_ => ox_load (v := (.slice x_5.rA x_5.right.length x_5.rc)) tA_33 rfl ((q8.ext hW_).cell rfl) ⟨rfl, rfl⟩⟩) hS3 ?_
          refine xd_pure 7 (some 104) rfl rfl (by kernel_rfl) (v := (.int .i64 (((x_5.right.length : Nat) : Int)))) (.inl ⟨rfl, fun W_ hW_ => ox_len (A := x_5.rA) (n := x_5.right.length) (cp := x_5.rc) rfl tU_33 rfl ⟨rfl, rfl⟩⟩) ?_
          refine xd_pure 8 (some 105) rfl rfl (by kernel_rfl) (v := (.slice A4 x_5.right.length ((x_5.right.length + 1)))) (.inl ⟨rfl, fun W_ hW_ => ox_sliceToN (A := A4) (cp := ((x_5.right.length + 1))) (i := (((x_5.right.length : Nat) : Int))) x_5.right.length tE_33 rfl rfl (by omega) (by omega) (by omega) ⟨rfl, rfl⟩⟩) ?_
          refine xd_pure 9 (some 106) rfl rfl (by kernel_rfl) (v := (.agg #[(.int .i64 x_5.left), (.slice A4 x_5.right.length ((x_5.right.length + 1)))])) (.inl ⟨rfl, fun W_ hW_ => ox_mkStruct (ps := [(0, (.int .i64 x_5.left)), (1, (.slice A4 x_5.right.length ((x_5.right.length + 1))))]) (cs := #[(.int .i64 x_5.left), (.slice A4 x_5.right.length ((x_5.right.length + 1)))]) tZ_37 tP_37 rfl (by kernel_rfl) ⟨rfl, rfl⟩⟩) ?_
          have q9 := ((o0_f2.ext e12).keep1 e13 (fun k hk => by have _q := (o0_f2.lt) k hk; omega))
          have q10 := ((q9.ext e14).keep e15 (fun _k _hk => (q9.ext e14).ne_own o8 (by decide) _k _hk))
          have q11 := (q10.keep e16 (fun _k _hk => q10.ne_own o9 (by decide) _k _hk))
          obtain ⟨x_7, g_7, hx_13⟩ := own_may (A := A3) k PD.len (by decide) q11
          obtain ⟨hx_14, hA_7, hc_7⟩ := hx_13 (by first | omega | (simp only [List.length_drop, List.length_replicate, List.length_set, List.length_append, List.length_map, List.length_singleton] at *; omega))
          refine xd_pure 10 (some 107) rfl rfl (by kernel_rfl) (v := (.pointer (some ⟨g_7, 0 + k * 2, none⟩))) (.inl ⟨rfl, fun W_ hW_ => ox_ixA (b := g_7) (o := 0) (i := ((k : Nat))) k tE_24 hA_7 rfl rfl rfl (by omega) ⟨rfl, rfl⟩⟩) ?_
          refine xd_one 11 none rfl rfl (by kernel_rfl) rfl (ox_stE (i := k) (off := 0) (vs := [(.int .i64 x_5.left), (.slice A4 x_5.right.length ((x_5.right.length + 1)))]) (b := ((PD.mk x_5.left A4 ((x_5.right.length + 1)) x_5.right) : PD)) PD.len tS_37 hA_7 rfl (v := (.agg #[(.int .i64 x_5.left), (.slice A4 x_5.right.length ((x_5.right.length + 1)))])) rfl rfl rfl rfl (q11.ext e17) hx_14 rfl (by decide) (by omega) ?_)
          intro w20 e18 z17 o11
          refine ⟨.inl (by decide), ?_⟩
          refine xd_done (by kernel_rfl) ?_ _
          refine xc_region ?_
          refine xl_op (P := Tryz.prog) (some 75) rfl rfl (ox_move (v := (.int .i64 ((k : Nat)))) g7_f2 ?_)
          refine xl_op (P := Tryz.prog) (some 76) rfl rfl (ox_add64 (a := ((k : Nat))) (b := 1) rfl rfl (by omega) ?_)
          refine xl_op (P := Tryz.prog) (some 7) rfl rfl (ox_assign (v := (.int .i64 ((k : Nat) + 1))) rfl ?_)
          refine xl_nil ?_
          have q12 := ((o10.ext e17).keep e18 (fun _k _hk => (o10.ext e17).ne_own (q11.ext e17) (by decide) _k _hk))
          have hr9 := q12
          have hrr : (((x_5.right ++ ((List.replicate (x_5.right.length + 1) (⟨0, 0⟩ : Sym))).drop x_5.right.length)).set x_5.right.length ((⟨77, 0⟩ : Sym))) = x_5.right ++ [(⟨77, 0⟩ : Sym)] := row_mark rfl
          rw [hrr] at hr9
          have x9 : Ext w13 w19 := (Ext.trans (Chg.trans (Chg.trans (Ext.trans (Ext.chg1 e12 e13 (by omega)) e14) e15 (fun b hb hl => (absurd hl (by have _h := lo4 b hb; omega)))) e16 (fun b hb hl => (absurd hl (by have _h := lo4 b hb; omega)))) e17)
          have y2 : Chg (fun b => ((.slice A3 ((s.prods.length + 1)) ((s.prods.length + 1))) : Value).ownBlock = some b) w12 w20 := (Chg.trans (Chg.ext (Chg.trans (Chg.trans (Chg.ext (Chg.chg1 (Chg.ext (Chg.trans (Chg.refl (fun b => ((.slice A3 ((s.prods.length + 1)) ((s.prods.length + 1))) : Value).ownBlock = some b) w12) x6 (fun b hb hl => hb)) e12) e13 (.inr (by omega))) e14) e15 (fun b hb hl => absurd hl (by have _h := lo4 b hb; omega))) e16 (fun b hb hl => absurd hl (by have _h := lo4 b hb; omega))) e17) e18 (fun b hb hl => hb))
          exact ⟨rfl, s.prods.length - (k + 1), by omega, k + 1, (M.set k ((PD.mk x_5.left A4 ((x_5.right.length + 1)) x_5.right))), by omega, (by omega), g1_f2, g2_f2, g3_f2, g4_f2, g15_f2, g16_f2, g17_f2, g18_f2, g19_f2, g45_f2, g46_f2, g47_f2, g48_f2, g49_f2, g50_f2, g51_f2, g52_f2, g53_f2, g54_f2, g55_f2, g5_f2, g56_f2, g57_f2, g58_f2, g60_f2, g61_f2, g62_f2, g63_f2, g64_f2, g65_f2, g66_f2, g67_f2, g68_f2, g69_f2, g6_f2, (by first | exact rfl | exact (congrArg (Value.int .i64) (by omega))), o11, (PdF.snoc (PdF.keep (PdF.ext t0_f2 x9) e18 hlt2) hx_10 (y := ⟨x_5.left, A4, x_5.right.length + 1, x_5.right⟩) ⟨rfl, rfl, rfl, hr9, fun k hk => by have _h := lo4 k hk; omega⟩ (by omega) (fun j y hj hy k h1 h2 => by have _a := lo4 k (own_any h2); have _b := (t0_f2).lt ⟨hj, by omega⟩ hy k h1; omega)), y2⟩
        · skip
          refine xc_exit ?_
          refine xc_seq ?_
          refine xc_region ?_
          refine xl_op (P := Tryz.prog) (some 108) rfl rfl (ox_move (v := (.slice A3 ((s.prods.length + 1)) ((s.prods.length + 1)))) g6_f2 ?_)
          refine xl_op (P := Tryz.prog) (some 109) rfl rfl (ox_fieldAddr (b := w.heap.size) (o := 0) tF_26_3 g1_f2 ?_)
          refine xl_op (P := Tryz.prog) (some 110) rfl rfl (ox_load (v := (.slice s.pA s.prods.length s.pc)) tA_24 rfl (q5.cell rfl) ?_)
          refine xl_op (P := Tryz.prog) (some 111) rfl rfl (ox_len (A := s.pA) (n := s.prods.length) (cp := s.pc) rfl tU_24 rfl ?_)
          refine xl_op (P := Tryz.prog) (some 112) rfl rfl (ox_mkStruct (ps := [(0, (.int .i64 (-77)))]) (cs := #[(.int .i64 (-77)), (.slice none 0 0)]) tZ_37 tP_37 rfl (by kernel_rfl) ?_)
          obtain ⟨x_8, g_8, hx_15⟩ := own_may (A := A3) s.prods.length PD.len (by decide) o0_f2
          obtain ⟨hx_16, hA_8, hc_8⟩ := hx_15 (by first | omega | (simp only [List.length_drop, List.length_replicate, List.length_set, List.length_append, List.length_map, List.length_singleton] at *; omega))
          refine xl_op (P := Tryz.prog) (some 113) rfl rfl (ox_ixA (b := g_8) (o := 0) (i := (((s.prods.length : Nat) : Int))) s.prods.length tE_24 hA_8 rfl rfl rfl (by omega) ?_)
          refine xl_op (P := Tryz.prog) none rfl rfl (ox_stE (i := s.prods.length) (off := 0) (vs := [(.int .i64 (-77)), (.slice none 0 0)]) (b := ((PD.mk (-77) none 0 []) : PD)) PD.len tS_37 hA_8 rfl (v := (.agg #[(.int .i64 (-77)), (.slice none 0 0)])) rfl rfl rfl rfl o0_f2 hx_16 rfl (by decide) (by omega) ?_)
          intro w21 e19 z18 o12
          refine xl_nil ?_
          refine xc_seq ?_
          refine xc_regionE [18] (fun W_ => Chg (fun _ => False) w21 W_) hmix ?_
          intro w22 e20 z19
          have hS4 : Chg (fun _ => False) w21 w22 := Ext.to e20
          refine xd_pure 0 (some 114) rfl rfl (by kernel_rfl) (v := (.slice A1 ((s.lex.length + 1)) ((s.lex.length + 1)))) (.inl ⟨rfl, fun W_ hW_ => ox_move (v := (.slice A1 ((s.lex.length + 1)) ((s.lex.length + 1)))) g3_f2 ⟨rfl, rfl⟩⟩) ?_
          refine xd_pure 1 (some 115) rfl rfl (by kernel_rfl) (v := (.pointer (some ⟨w.heap.size, 0, none⟩))) (.inl ⟨rfl, fun W_ hW_ => ox_fieldAddr (b := w.heap.size) (o := 0) tF_26_0 g1_f2 ⟨rfl, rfl⟩⟩) ?_
          have q13 := (q5.keep e19 (fun _h => o0_f2.ne_blk q5 (by decide) _ _h rfl))
          refine xd_take 2 (some 116) rfl rfl (by kernel_rfl) (v := (.slice s.lA s.lex.length s.lc)) (.inl ⟨rfl, fun W_ hW_ => ox_load (v := (.slice s.lA s.lex.length s.lc)) tA_22 rfl ((q13.ext hW_).cell rfl) ⟨rfl, rfl⟩⟩) hS4 ?_
          refine xd_pure 3 (some 117) rfl rfl (by kernel_rfl) (v := (.int .i64 (((s.lex.length : Nat) : Int)))) (.inl ⟨rfl, fun W_ hW_ => ox_len (A := s.lA) (n := s.lex.length) (cp := s.lc) rfl tU_22 rfl ⟨rfl, rfl⟩⟩) ?_
          refine xd_pure 4 (some 118) rfl rfl (by kernel_rfl) (v := (.slice A1 s.lex.length ((s.lex.length + 1)))) (.inl ⟨rfl, fun W_ hW_ => ox_sliceToN (A := A1) (cp := ((s.lex.length + 1))) (i := (((s.lex.length : Nat) : Int))) s.lex.length tE_22 rfl rfl (by omega) (by omega) (by omega) ⟨rfl, rfl⟩⟩) ?_
          refine xd_pure 5 (some 119) rfl rfl (by kernel_rfl) (v := (.slice A2 ((s.names.length + 1)) ((s.names.length + 1)))) (.inl ⟨rfl, fun W_ hW_ => ox_move (v := (.slice A2 ((s.names.length + 1)) ((s.names.length + 1)))) g5_f2 ⟨rfl, rfl⟩⟩) ?_
          refine xd_pure 6 (some 120) rfl rfl (by kernel_rfl) (v := (.pointer (some ⟨w.heap.size, 1, none⟩))) (.inl ⟨rfl, fun W_ hW_ => ox_fieldAddr (b := w.heap.size) (o := 0) tF_26_1 g1_f2 ⟨rfl, rfl⟩⟩) ?_
          have q14 := (q5.keep e19 (fun _h => o0_f2.ne_blk q5 (by decide) _ _h rfl))
          refine xd_take 7 (some 121) rfl rfl (by kernel_rfl) (v := (.slice s.nA s.names.length s.nc)) (.inl ⟨rfl, fun W_ hW_ => ox_load (v := (.slice s.nA s.names.length s.nc)) tA_23 rfl ((q14.ext hW_).cell rfl) ⟨rfl, rfl⟩⟩) hS4 ?_
          refine xd_pure 8 (some 122) rfl rfl (by kernel_rfl) (v := (.int .i64 (((s.names.length : Nat) : Int)))) (.inl ⟨rfl, fun W_ hW_ => ox_len (A := s.nA) (n := s.names.length) (cp := s.nc) rfl tU_23 rfl ⟨rfl, rfl⟩⟩) ?_
          refine xd_pure 9 (some 123) rfl rfl (by kernel_rfl) (v := (.slice A2 s.names.length ((s.names.length + 1)))) (.inl ⟨rfl, fun W_ hW_ => ox_sliceToN (A := A2) (cp := ((s.names.length + 1))) (i := (((s.names.length : Nat) : Int))) s.names.length tE_23 rfl rfl (by omega) (by omega) (by omega) ⟨rfl, rfl⟩⟩) ?_
          refine xd_pure 10 (some 124) rfl rfl (by kernel_rfl) (v := (.pointer (some ⟨w.heap.size, 2, none⟩))) (.inl ⟨rfl, fun W_ hW_ => ox_fieldAddr (b := w.heap.size) (o := 0) tF_26_2 g1_f2 ⟨rfl, rfl⟩⟩) ?_
          have q15 := (q5.keep e19 (fun _h => o0_f2.ne_blk q5 (by decide) _ _h rfl))
          refine xd_take 11 (some 125) rfl rfl (by kernel_rfl) (v := (.int .i64 s.start)) (.inl ⟨rfl, fun W_ hW_ => ox_load (v := (.int .i64 s.start)) tA_3 rfl ((q15.ext hW_).cell rfl) ⟨rfl, rfl⟩⟩) hS4 ?_
          refine xd_pure 12 (some 126) rfl rfl (by kernel_rfl) (v := (.slice A3 ((s.prods.length + 1)) ((s.prods.length + 1)))) (.inl ⟨rfl, fun W_ hW_ => ox_move (v := (.slice A3 ((s.prods.length + 1)) ((s.prods.length + 1)))) g6_f2 ⟨rfl, rfl⟩⟩) ?_
          refine xd_pure 13 (some 127) rfl rfl (by kernel_rfl) (v := (.pointer (some ⟨w.heap.size, 3, none⟩))) (.inl ⟨rfl, fun W_ hW_ => ox_fieldAddr (b := w.heap.size) (o := 0) tF_26_3 g1_f2 ⟨rfl, rfl⟩⟩) ?_
          have q16 := (q5.keep e19 (fun _h => o0_f2.ne_blk q5 (by decide) _ _h rfl))
          refine xd_take 14 (some 128) rfl rfl (by kernel_rfl) (v := (.slice s.pA s.prods.length s.pc)) (.inl ⟨rfl, fun W_ hW_ => ox_load (v := (.slice s.pA s.prods.length s.pc)) tA_24 rfl ((q16.ext hW_).cell rfl) ⟨rfl, rfl⟩⟩) hS4 ?_
          refine xd_pure 15 (some 129) rfl rfl (by kernel_rfl) (v := (.int .i64 (((s.prods.length : Nat) : Int)))) (.inl ⟨rfl, fun W_ hW_ => ox_len (A := s.pA) (n := s.prods.length) (cp := s.pc) rfl tU_24 rfl ⟨rfl, rfl⟩⟩) ?_
          refine xd_pure 16 (some 130) rfl rfl (by kernel_rfl) (v := (.slice A3 s.prods.length ((s.prods.length + 1)))) (.inl ⟨rfl, fun W_ hW_ => ox_sliceToN (A := A3) (cp := ((s.prods.length + 1))) (i := (((s.prods.length : Nat) : Int))) s.prods.length tE_24 rfl rfl (by omega) (by omega) (by omega) ⟨rfl, rfl⟩⟩) ?_
          refine xd_pure 17 (some 131) rfl rfl (by kernel_rfl) (v := (.agg #[(.slice A1 s.lex.length ((s.lex.length + 1))), (.slice A2 s.names.length ((s.names.length + 1))), (.int .i64 s.start), (.slice A3 s.prods.length ((s.prods.length + 1)))])) (.inl ⟨rfl, fun W_ hW_ => ox_mkStruct (ps := [(0, (.slice A1 s.lex.length ((s.lex.length + 1)))), (1, (.slice A2 s.names.length ((s.names.length + 1)))), (2, (.int .i64 s.start)), (3, (.slice A3 s.prods.length ((s.prods.length + 1))))]) (cs := #[(.slice A1 s.lex.length ((s.lex.length + 1))), (.slice A2 s.names.length ((s.names.length + 1))), (.int .i64 s.start), (.slice A3 s.prods.length ((s.prods.length + 1)))]) tZ_26 tP_26 rfl (by kernel_rfl) ⟨rfl, rfl⟩⟩) ?_
          have q17 := ((b2.ext e3).keep x1 (fun _h => o1.ne_blk (b2.ext e3) (by decide) _ _h rfl))
          have q18 := (q17.keep e7 (fun _h => o0_f1.ne_blk q17 (by decide) _ _h rfl))
          have q19 := ((q18.ext e8).keep e9 (fun _h => o4.ne_blk (q18.ext e8) (by decide) _ _h rfl))
          have q20 := (q19.keep e10 (fun _h => o5.ne_blk q19 (by decide) _ _h rfl))
          have q21 := ((q20.ext e11).keep x6 (fun _h => o7.ne_blk (q20.ext e11) (by decide) _ _h rfl))
          have q22 := (q21.keep e19 (fun _h => o0_f2.ne_blk q21 (by decide) _ _h rfl))
          refine xd_one 18 none rfl rfl (by kernel_rfl) rfl (ox_store (n := 4) (vs := [(.slice A1 s.lex.length ((s.lex.length + 1))), (.slice A2 s.names.length ((s.names.length + 1))), (.int .i64 s.start), (.slice A3 s.prods.length ((s.prods.length + 1)))]) tS_26 g2_f2 (v := (.agg #[(.slice A1 s.lex.length ((s.lex.length + 1))), (.slice A2 s.names.length ((s.names.length + 1))), (.int .i64 s.start), (.slice A3 s.prods.length ((s.prods.length + 1)))])) rfl rfl rfl rfl (q22.ext e20) (Nat.le_of_ble_eq_true rfl) ?_)
          intro w23 e21 z20 b5
          replace b5 : Blk w23 w1.heap.size #[(.slice A1 s.lex.length ((s.lex.length + 1))), (.slice A2 s.names.length ((s.names.length + 1))), (.int .i64 s.start), (.slice A3 s.prods.length ((s.prods.length + 1)))] 26 := blk_full b5 rfl
          refine ⟨.inl (by decide), ?_⟩
          refine xd_done (by kernel_rfl) ?_ _
          refine xc_ret ?_
          change leaves _ _ _ _ _ _ _
          refine leaves_nil (n := 132) (rs := [.cell 2 26]) (vs := [.agg #[(.slice A1 s.lex.length ((s.lex.length + 1))), (.slice A2 s.names.length ((s.names.length + 1))), (.int .i64 s.start), (.slice A3 s.prods.length ((s.prods.length + 1)))]]) rfl ⟨⟨by decide, w1.heap.size, 0, 4, [(.slice A1 s.lex.length ((s.lex.length + 1))), (.slice A2 s.names.length ((s.names.length + 1))), (.int .i64 s.start), (.slice A3 s.prods.length ((s.prods.length + 1)))], g2_f2, tA_26, tS_26, rfl, ⟨b5.cell rfl, b5.cell rfl, b5.cell rfl, b5.cell rfl, trivial⟩, rfl⟩, trivial⟩ ?_
          have hcL := set_lastA (x := lrMark) hl_L
          have q23 := ((o3.ext e8).keep e9 (fun _k _hk => (o3.ext e8).ne_own o4 (by decide) _k _hk))
          have q24 := (q23.keep e10 (fun _k _hk => q23.ne_own o5 (by decide) _k _hk))
          have q25 := ((q24.ext e11).keep x6 (fun _k _hk => (q24.ext e11).ne_own o7 (by decide) _k _hk))
          have q26 := (q25.keep e19 (fun _k _hk => q25.ne_own o0_f2 (by decide) _k _hk))
          have q27 := ((q26.ext e20).keep1 e21 (fun k hk => (q26.ext e20).ne_blk (q22.ext e20) (by decide) k hk))
          have hoL : Vx.Own w23 66 8 (.slice A1 (s.lex.length + 1) (s.lex.length + 1)) (s.lex.length + 1) ((L.take s.lex.length ++ [lrMark]).flatMap LR.cs) := by rw [← hcL.2]; exact q27
          have hcP := set_lastA (x := pdMark) hl_M
          have q28 := ((o12.ext e20).keep1 e21 (fun k hk => (o12.ext e20).ne_blk (q22.ext e20) (by decide) k hk))
          have hoP : Vx.Own w23 37 2 (.slice A3 (s.prods.length + 1) (s.prods.length + 1)) (s.prods.length + 1) ((M.take s.prods.length ++ [pdMark]).flatMap PD.cs) := by rw [← hcP.2]; exact q28
          have q29 := ((o6.ext e11).keep x6 (fun _k _hk => (o6.ext e11).ne_own o7 (by decide) _k _hk))
          have q30 := (q29.keep e19 (fun _k _hk => q29.ne_own o0_f2 (by decide) _k _hk))
          have q31 := ((q30.ext e20).keep1 e21 (fun k hk => (q30.ext e20).ne_blk (q22.ext e20) (by decide) k hk))
          have hoN : Vx.Own w23 9 1 (.slice A2 (s.names.length + 1) (s.names.length + 1)) (s.names.length + 1) ((s.names ++ [(⟨#[109, 97, 114, 107]⟩ : ByteArray)]).flatMap strs) := by have h9 := q31; rw [row_mark rfl] at h9; exact h9
          have hik : i = s.lex.length := by omega
          have hkk : k = s.prods.length := by omega
          have x10 : Ext w8 w22 := (Ext.trans (Chg.trans (Chg.trans (Ext.trans (Chg.trans (Chg.trans e8 e9 (fun b hb hl => (absurd hl (by have _h := lo2 b hb; omega)))) e10 (fun b hb hl => (absurd hl (by have _h := lo2 b hb; omega)))) e11) x6 (fun b hb hl => (absurd hl (by have _h := lo3 b hb; omega)))) e19 (fun b hb hl => (absurd hl (by have _h := lo3 b hb; omega)))) e20)
          have q32 := (LxF.keep (LxF.ext (LxF.keep t0_f1 e7 hlt1) x10) e21 (fun b hb => by subst hb; omega))
          have q33 := (PdF.keep (PdF.ext (PdF.keep t0_f2 e19 hlt2) e20) e21 (fun b hb => by subst hb; omega))
          have x11 : Ext w w23 := (Ext.chg1 (Ext.trans (Chg.trans (Chg.trans (Ext.trans (Chg.trans (Chg.trans x5 e9 (fun b hb hl => (absurd hl (by have _h := lo2 b hb; omega)))) e10 (fun b hb hl => (absurd hl (by have _h := lo2 b hb; omega)))) e11) x6 (fun b hb hl => (absurd hl (by have _h := lo3 b hb; omega)))) e19 (fun b hb hl => (absurd hl (by have _h := lo3 b hb; omega)))) e20) e21 (by omega))
          exact ⟨⟨A1, s.lex.length + 1, L.take s.lex.length, A2, s.names.length + 1, s.names, s.start, A3, s.prods.length + 1, M.take s.prods.length⟩, by show one [_] = Value.agg #[.slice _ (L.take s.lex.length).length _, _, _, .slice _ (M.take s.prods.length).length _]; rw [hcL.1, hcP.1]; rfl, ⟨hoL, hcL.1, rfl, (LxF.mono (by omega) q32).take (by omega), hoN, rfl, rfl, rfl, hoP, hcP.1, rfl, (PdF.mono (by omega) q33).take (by omega), fun k hk => by have _h := lo1 k hk; omega, fun k hk => by have _h := lo2 k hk; omega, fun k hk => by have _h := lo3 k hk; omega⟩, x11⟩
end Go.Proofs.YtnnmdkglgnlenaaGreatDoor
set_option linter.unusedVariables false
set_option linter.unusedSimpArgs false
set_option maxRecDepth 100000
set_option maxHeartbeats 4000000
namespace Go.Proofs.YtnnmdkglgnlenaaGreatDoor
open Go Go.RowKit Go.Vx
theorem eqd_next {α : Type} {l m : List α} {i : Nat} {x y : α} (h : l = m ↔ l.drop i = m.drop i) (hx : l[i]? = some x) (hy : m[i]? = some y) (e : x = y) : l = m ↔ l.drop (i + 1) = m.drop (i + 1) := by
  rw [h, drop_get hx, drop_get hy, e]; simp
theorem eqd_head {α : Type} {l m : List α} {i : Nat} {x y : α} (h : l.drop i = m.drop i) (hx : l[i]? = some x) (hy : m[i]? = some y) : x = y := by
  rw [drop_get hx, drop_get hy] at h; simp at h; exact h.1
theorem eqd_end {α : Type} {l m : List α} {i : Nat} (h : l = m ↔ l.drop i = m.drop i) (hi : l.length ≤ i) (hl : l.length = m.length) : l = m := by
  rw [h, List.drop_of_length_le hi, List.drop_of_length_le (by omega)]
theorem sameItems_calls (l m : List Itm) (A B : Option Addr) (ca cb : Nat) (w : World) (hA : RowA w A (l.flatMap Itm.cs)) (hB : RowA w B (m.flatMap Itm.cs)) (hn : l.length ≤ 8796093022208) :
    Calls Tryz.prog 26 #[(.slice A l.length ca), (.slice B m.length cb)] w (Ret (fun v w' => v = .bool (decide (l = m)) ∧ Ext w w')) := by
  refine calls_xc (n := 26) (f := fun s_ => [(.slice A l.length ca), (.slice B m.length cb)].getD s_ undef) Tryz.func26 rfl rfl (by simp) (fun s_ => by simp) ?_
  refine xc_seq ?_
  refine xc_region ?_
  refine xl_op (P := Tryz.prog) (some 4) rfl rfl (ox_assign (v := (.bool false)) rfl ?_)
  refine xl_nil ?_
  refine xc_seq ?_
  refine xc_seq ?_
  refine xc_region ?_
  refine xl_op (P := Tryz.prog) (some 6) rfl rfl (ox_move (v := (.slice A l.length ca)) rfl ?_)
  refine xl_op (P := Tryz.prog) (some 7) rfl rfl (ox_len (A := A) (n := l.length) (cp := ca) rfl tU_39 rfl ?_)
  refine xl_op (P := Tryz.prog) (some 8) rfl rfl (ox_move (v := (.slice B m.length cb)) rfl ?_)
  refine xl_op (P := Tryz.prog) (some 9) rfl rfl (ox_len (A := B) (n := m.length) (cp := cb) rfl tU_39 rfl ?_)
  refine xl_op (P := Tryz.prog) (some 10) rfl rfl (ox_neq (k := .i64) (a := (((l.length : Nat) : Int))) (b := (((m.length : Nat) : Int))) rfl rfl ?_)
  refine xl_nil ?_
  refine xc_if (p := (((l.length : Nat) : Int) : Int) ≠ (((m.length : Nat) : Int))) rfl (fun h1 => ?_) (fun h1 => ?_)
  · skip
    refine xc_seq ?_
    refine xc_region ?_
    refine xl_op (P := Tryz.prog) (some 4) rfl rfl (ox_assign (v := (.bool false)) rfl ?_)
    refine xl_nil ?_
    refine xc_ret ?_
    change leaves _ _ _ _ _ _ _
    refine leaves_nil (n := 26) (rs := [.tmp 4]) (vs := [(.bool false)]) rfl ⟨⟨by decide, rfl⟩, trivial⟩ ?_
    exact ⟨congrArg Value.bool (decide_eq_false (fun hh => h1 (by rw [hh]))).symm, (Chg.refl _ _)⟩
  · skip
    refine xc_skip ?_
    refine xc_seq ?_
    refine xc_seq ?_
    refine xc_region ?_
    refine xl_op (P := Tryz.prog) (some 5) rfl rfl (ox_assign (v := (.int .i64 0)) rfl ?_)
    refine xl_nil ?_
    refine xc_block ?_
    refine xc_loopN (fun m_ f_ Wx => ∃ (i : Nat), m_ = l.length - i ∧ (i ≤ l.length) ∧ (l = m ↔ l.drop i = m.drop i) ∧ f_ 0 = (.slice A l.length ca) ∧ f_ 1 = (.slice B m.length cb) ∧ f_ 5 = (.int .i64 ((i : Nat))) ∧ Ext w Wx) (l.length) ?_ ?_
    · exact ⟨0, (by omega), (by omega), (by simp), rfl, rfl, (by first | exact rfl | exact (congrArg (Value.int .i64) (by omega))), (Chg.refl _ _)⟩
    · rintro m_ f1 w1 ⟨i, hm_f1, hi, heq, g0_f1, g1_f1, g5_f1, x1⟩
      have hx1 := x1.size
      refine xc_seq ?_
      refine xc_seq ?_
      refine xc_region ?_
      refine xl_op (P := Tryz.prog) (some 11) rfl rfl (ox_move (v := (.int .i64 ((i : Nat)))) g5_f1 ?_)
      refine xl_op (P := Tryz.prog) (some 12) rfl rfl (ox_move (v := (.slice A l.length ca)) g0_f1 ?_)
      refine xl_op (P := Tryz.prog) (some 13) rfl rfl (ox_len (A := A) (n := l.length) (cp := ca) rfl tU_39 rfl ?_)
      refine xl_op (P := Tryz.prog) (some 14) rfl rfl (ox_lss (k := .i64) (a := ((i : Nat))) (b := (((l.length : Nat) : Int))) rfl rfl ?_)
      refine xl_nil ?_
      refine xc_if (p := ((i : Nat) : Int) < (((l.length : Nat) : Int))) rfl (fun h2 => ?_) (fun h2 => ?_)
      · skip
        refine xc_skip ?_
        refine xc_seq ?_
        refine xc_block ?_
        refine xc_seq ?_
        refine xc_regionE [] (fun W_ => Chg (fun _ => False) w1 W_) hmix ?_
        intro w2 e1 z1
        have hS1 : Chg (fun _ => False) w1 w2 := Ext.to e1
        refine xd_pure 0 (some 17) rfl rfl (by kernel_rfl) (v := (.slice A l.length ca)) (.inl ⟨rfl, fun W_ hW_ => ox_move (v := (.slice A l.length ca)) g0_f1 ⟨rfl, rfl⟩⟩) ?_
        refine xd_pure 1 (some 18) rfl rfl (by kernel_rfl) (v := (.int .i64 ((i : Nat)))) (.inl ⟨rfl, fun W_ hW_ => ox_move (v := (.int .i64 ((i : Nat)))) g5_f1 ⟨rfl, rfl⟩⟩) ?_
        obtain ⟨x_1, g_1, o_1, hx_1⟩ := row_may (A := A) (cs := Itm.cs) i Itm.len (by decide) (RowA.ext hA x1)
        obtain ⟨hx_2, hA_1, hc_1⟩ := hx_1 (by first | omega | (simp only [List.length_drop, List.length_replicate, List.length_set, List.length_append, List.length_map, List.length_singleton] at *; omega))
        refine xd_pure 2 (some 19) rfl rfl (by kernel_rfl) (v := (.pointer (some ⟨g_1, o_1 + i * 2, none⟩))) (.inl ⟨rfl, fun W_ hW_ => ox_ixA (b := g_1) (o := o_1) (i := ((i : Nat))) i tE_39 hA_1 rfl rfl rfl (by omega) ⟨rfl, rfl⟩⟩) ?_
        refine xd_take 3 (some 20) rfl rfl (by kernel_rfl) (v := (.agg #[(.int .i64 x_1.p), (.int .i64 x_1.dot)])) (.inl ⟨rfl, fun W_ hW_ => ox_loadN (vs := [(.int .i64 x_1.p), (.int .i64 x_1.dot)]) tA_42 tS_42 rfl rfl (CellsL.keep hW_ not_false hc_1) ⟨rfl, rfl⟩⟩) hS1 ?_
        refine xd_pure 4 (some 21) rfl rfl (by kernel_rfl) (v := (.slice B m.length cb)) (.inl ⟨rfl, fun W_ hW_ => ox_move (v := (.slice B m.length cb)) g1_f1 ⟨rfl, rfl⟩⟩) ?_
        refine xd_pure 5 (some 22) rfl rfl (by kernel_rfl) (v := (.int .i64 ((i : Nat)))) (.inl ⟨rfl, fun W_ hW_ => ox_move (v := (.int .i64 ((i : Nat)))) g5_f1 ⟨rfl, rfl⟩⟩) ?_
        obtain ⟨x_2, g_2, o_2, hx_3⟩ := row_may (A := B) (cs := Itm.cs) i Itm.len (by decide) (RowA.ext hB x1)
        obtain ⟨hx_4, hA_2, hc_2⟩ := hx_3 (by first | omega | (simp only [List.length_drop, List.length_replicate, List.length_set, List.length_append, List.length_map, List.length_singleton] at *; omega))
        refine xd_pure 6 (some 23) rfl rfl (by kernel_rfl) (v := (.pointer (some ⟨g_2, o_2 + i * 2, none⟩))) (.inl ⟨rfl, fun W_ hW_ => ox_ixA (b := g_2) (o := o_2) (i := ((i : Nat))) i tE_39 hA_2 rfl rfl rfl (by omega) ⟨rfl, rfl⟩⟩) ?_
        refine xd_take 7 (some 24) rfl rfl (by kernel_rfl) (v := (.agg #[(.int .i64 x_2.p), (.int .i64 x_2.dot)])) (.inl ⟨rfl, fun W_ hW_ => ox_loadN (vs := [(.int .i64 x_2.p), (.int .i64 x_2.dot)]) tA_42 tS_42 rfl rfl (CellsL.keep hW_ not_false hc_2) ⟨rfl, rfl⟩⟩) hS1 ?_
        refine xd_pure 8 (some 25) rfl rfl (by kernel_rfl) (v := (.bool (!decide (((x_1.p : Int) = x_2.p ∧ (x_1.dot : Int) = x_2.dot))))) (.inl ⟨rfl, fun W_ hW_ => ox_neqF (xs := [(.int .i64 x_1.p), (.int .i64 x_1.dot)]) (ys := [(.int .i64 x_2.p), (.int .i64 x_2.dot)]) (p := ((x_1.p : Int) = x_2.p ∧ (x_1.dot : Int) = x_2.dot)) fS_42 rfl rfl rfl rfl (by simp) ⟨rfl, rfl⟩⟩) ?_
        refine xd_done (by kernel_rfl) ?_ _
        refine xc_cond (b := (!decide (((x_1.p : Int) = x_2.p ∧ (x_1.dot : Int) = x_2.dot)))) rfl (fun h3 => ?_) (fun h3 => ?_)
        · skip
          have h3' := h3
          try simp only [Bool.or_eq_true, Bool.and_eq_true, decide_eq_true_eq, Bool.or_eq_false_iff, Bool.and_eq_false_iff, decide_eq_false_iff_not, Bool.not_eq_true', Bool.not_eq_false'] at h3'
          refine xc_seq ?_
          refine xc_region ?_
          refine xl_op (P := Tryz.prog) (some 4) rfl rfl (ox_assign (v := (.bool false)) rfl ?_)
          refine xl_nil ?_
          refine xc_ret ?_
          change leaves _ _ _ _ _ _ _
          refine leaves_nil (n := 26) (rs := [.tmp 4]) (vs := [(.bool false)]) rfl ⟨⟨by decide, rfl⟩, trivial⟩ ?_
          have x2 : Ext w w2 := (Ext.trans x1 e1)
          exact ⟨congrArg Value.bool (decide_eq_false (fun hh => h3' (by have e := eqd_head (heq.1 hh) hx_2 hx_4; rw [e]; exact ⟨rfl, rfl⟩))).symm, x2⟩
        · skip
          have h3' := h3
          try simp only [Bool.or_eq_true, Bool.and_eq_true, decide_eq_true_eq, Bool.or_eq_false_iff, Bool.and_eq_false_iff, decide_eq_false_iff_not, Bool.not_eq_true', Bool.not_eq_false'] at h3'
          refine xc_skip ?_
          refine xc_region ?_
          refine xl_op (P := Tryz.prog) (some 15) rfl rfl (ox_move (v := (.int .i64 ((i : Nat)))) g5_f1 ?_)
          refine xl_op (P := Tryz.prog) (some 16) rfl rfl (ox_add64 (a := ((i : Nat))) (b := 1) rfl rfl (by omega) ?_)
          refine xl_op (P := Tryz.prog) (some 5) rfl rfl (ox_assign (v := (.int .i64 ((i : Nat) + 1))) rfl ?_)
          refine xl_nil ?_
          have x3 : Ext w w2 := (Ext.trans x1 e1)
          exact ⟨rfl, l.length - (i + 1), by omega, i + 1, by omega, (by omega), (eqd_next heq hx_2 hx_4 (by cases x_1; cases x_2; simp_all)), g0_f1, g1_f1, (by first | exact rfl | exact (congrArg (Value.int .i64) (by omega))), x3⟩
      · skip
        refine xc_exit ?_
        refine xc_seq ?_
        refine xc_region ?_
        refine xl_op (P := Tryz.prog) (some 4) rfl rfl (ox_assign (v := (.bool true)) rfl ?_)
        refine xl_nil ?_
        refine xc_ret ?_
        change leaves _ _ _ _ _ _ _
        refine leaves_nil (n := 26) (rs := [.tmp 4]) (vs := [(.bool true)]) rfl ⟨⟨by decide, rfl⟩, trivial⟩ ?_
        exact ⟨congrArg Value.bool (decide_eq_true (eqd_end heq (by omega) (by omega))).symm, x1⟩
end Go.Proofs.YtnnmdkglgnlenaaGreatDoor
