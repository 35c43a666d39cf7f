/-
  Part 7 of the proof: texts Sb Sc Se Sf Sx Sy Sh Sj Sk Sl Sm. No conditions.
-/
import Derived.Test.YtnnmdkglgnlenaaGreatDoorRows
import Derived.Test.YtnnmdkglgnlenaaGreatDoorPbc
import Derived.Test.YtnnmdkglgnlenaaGreatDoorPbf
set_option linter.unusedVariables false
set_option linter.unusedSimpArgs false
set_option linter.unusedSectionVars false
set_option maxRecDepth 100000
set_option maxHeartbeats 4000000
namespace Go.Proofs.YtnnmdkglgnlenaaGreatDoor
open Go Go.RowKit Go.Vx
theorem row_nil {α : Type} {w : World} {cs : α → List Value} {k : Nat} {l : List α} (hk : ∀ a, (cs a).length = k) (h0 : 0 < k) (h : RowA w none (l.flatMap cs)) : l = [] := by
  cases l with
  | nil => rfl
  | cons x l =>
    have h1 : (x :: l).flatMap cs = [] := h
    have h2 := fm_len hk (x :: l)
    rw [h1] at h2; simp only [List.length_nil, List.length_cons, Nat.add_mul, Nat.one_mul] at h2; omega
def idxO {α : Type} [DecidableEq α] (y : α) : List α → Nat → Int
  | [], _ => -1
  | x :: l, k => if y = x then (k : Nat) else idxO y l (k + 1)
theorem idxO_hit {α : Type} [DecidableEq α] {y x : α} {l : List α} {i : Nat} (h : l[i]? = some x) (e : y = x) : idxO y (l.drop i) i = (i : Nat) := by rw [drop_get h, idxO, if_pos e]
theorem idxO_next {α : Type} [DecidableEq α] {y x : α} {l : List α} {i : Nat} (h : l[i]? = some x) (e : ¬ (y = x)) : idxO y (l.drop i) i = idxO y (l.drop (i + 1)) (i + 1) := by rw [drop_get h, idxO, if_neg e]
theorem idxO_end {α : Type} [DecidableEq α] {y : α} {l : List α} {i : Nat} (h : l.length ≤ i) : idxO y (l.drop i) i = -1 := by rw [List.drop_of_length_le h, idxO]
theorem hmix : Tryz.prog.follows .mixedOrders = true := by kernel_rfl
instance pf_142 : PlF Tryz.prog 142 := ⟨by kernel_rfl⟩
instance pf_143 : PlF Tryz.prog 143 := ⟨by kernel_rfl⟩
instance tA_32 : AggT Tryz.prog 32 := ⟨by kernel_rfl⟩
instance tA_37 : AggT Tryz.prog 37 := ⟨by kernel_rfl⟩
instance tA_4 : AggF Tryz.prog 4 := ⟨by kernel_rfl⟩
instance tE_144 : SlT Tryz.prog 144 (4, 1, 1, (.bool false)) := ⟨by kernel_rfl⟩
instance tE_22 : SlT Tryz.prog 22 (66, 8, 88, (.agg #[(.string (⟨#[]⟩)), (.bool false), (.int .i64 0), (.int .i64 0), (.int .i64 0), (.int .i64 0), (.int .i64 0), (.slice none 0 0)])) := ⟨by kernel_rfl⟩
instance tE_23 : SlT Tryz.prog 23 (9, 1, 16, (.string (⟨#[]⟩))) := ⟨by kernel_rfl⟩
instance tE_24 : SlT Tryz.prog 24 (37, 2, 32, (.agg #[(.int .i64 0), (.slice none 0 0)])) := ⟨by kernel_rfl⟩
instance tE_33 : SlT Tryz.prog 33 (32, 2, 16, (.agg #[(.int .i64 0), (.int .i64 0)])) := ⟨by kernel_rfl⟩
instance tE_39 : SlT Tryz.prog 39 (42, 2, 16, (.agg #[(.int .i64 0), (.int .i64 0)])) := ⟨by kernel_rfl⟩
instance tE_62 : SlT Tryz.prog 62 (64, 6, 64, (.agg #[(.int .i64 0), (.int .i64 0), (.int .i64 0), (.int .i64 0), (.int .i64 0), (.slice none 0 0)])) := ⟨by kernel_rfl⟩
instance tS_32 : SzT Tryz.prog 32 2 := ⟨by kernel_rfl⟩
instance tS_37 : SzT Tryz.prog 37 2 := ⟨by kernel_rfl⟩
instance tU_144 : UnS Tryz.prog 144 4 := ⟨by kernel_rfl⟩
instance tU_22 : UnS Tryz.prog 22 66 := ⟨by kernel_rfl⟩
instance tU_23 : UnS Tryz.prog 23 9 := ⟨by kernel_rfl⟩
instance tU_24 : UnS Tryz.prog 24 37 := ⟨by kernel_rfl⟩
instance tU_33 : UnS Tryz.prog 33 32 := ⟨by kernel_rfl⟩
instance tU_39 : UnS Tryz.prog 39 42 := ⟨by kernel_rfl⟩
theorem tU_4 : Tryz.prog.underlying 4 = some (.bool) := by kernel_rfl
instance tU_62 : UnS Tryz.prog 62 64 := ⟨by kernel_rfl⟩
theorem cloneItm (l : List Itm) (A : Option Addr) (c : Nat) (w : World) (hA : RowA w A (l.flatMap Itm.cs)) (hn : l.length * 16 ≤ 140737488355328) :
    Calls Tryz.prog 46 #[(.slice A l.length c)] w (Ret (fun v w' => ∃ A' c', v = .slice A' l.length c' ∧ NewRow w w' 42 2 Itm.cs l A' c' ∧ (A = none ↔ A' = none) ∧ Ext w w')) := by
 refine calls_y (n := 8) Tryz.func46 ?_
 refine go ?_
 refine yOp (ox_eqlSlice (A := A) (B := none) tU_39.h rfl rfl (.inr rfl) ?_)
 refine go ?_
 refine y_if (fun h1 => ?_) (fun h1 => ?_)
 ·
  refine go ?_
  refine y_r1 ?_
  obtain rfl : l = [] := row_nil Itm.len (by decide) (by rw [h1] at hA; exact hA)
  exact ⟨none, 0, rfl, ⟨Vx.Own.nil _ _ _, fun k hk => by simp [Value.ownBlock] at hk⟩, by simp [h1], (Chg.refl _ _)⟩
 ·
  refine go ?_
  refine yOp (ox_mkSlice (ps := []) (zs := #[]) (cs := #[]) tE_39.h rfl (by decide) (by kernel_rfl) (by kernel_rfl) ?_)
  intro w1 e1 z1 b1
  replace b1 : Blk w1 w.heap.size #[] 42 := b1
  refine go ?_
  refine yOp (ox_appR (l := ([])) (r := l) (cs := Itm.cs) rfl tE_39.h rfl (by decide) Itm.len Itm.one (v := (.slice (some ⟨w.heap.size, 0, none⟩) 0 0)) rfl rfl (Vx.Own.lit (n := 0) (sz := 2) b1 rfl (by decide)) (RowA.ext hA e1) (by simp only [List.nil_append]; omega) (by decide) ?_)
  intro A1 c1 w2 o1 e2 at1 hc1
  have he2 := e2.size
  replace at1 : (Value.slice A1 (l).length c1).ownBlock = ((.slice (some ⟨w.heap.size, 0, none⟩) 0 0) : Value).ownBlock ∨ (Value.slice A1 (l).length c1).ownBlock = some w1.heap.size := at1
  replace o1 : Vx.Own w2 42 2 (.slice A1 (l).length c1) (l).length ((l).flatMap Itm.cs) := o1
  have low1 : ∀ _k, (Value.slice A1 (l).length c1).ownBlock = some _k → w.heap.size ≤ _k := fun _k _h => by rcases at1 with _e | _e <;> rw [_e] at _h; exact (fun _k _h => by simp [Value.ownBlock] at _h; omega) _k _h; exact (by cases _h; omega)
  refine go ?_
  refine y_r1 ?_
  have x1 : Ext w w2 := (Chg.trans e1 e2 (fun b hb hl => (absurd hl (by have _h := (fun _k _h => by simp [Value.ownBlock] at _h; omega) b hb; omega))))
  exact ⟨A1, c1, rfl, ⟨o1, fun k hk => by have _h := low1 k hk; omega⟩, ⟨fun hh => absurd hh h1, fun hh => by subst hh; have _q := at1; simp [Value.ownBlock] at _q⟩, x1⟩
theorem cloneLR (l : List LR) (A : Option Addr) (c : Nat) (w : World) (hA : RowA w A (l.flatMap LR.cs)) (hn : l.length * 88 ≤ 140737488355328) :
    Calls Tryz.prog 81 #[(.slice A l.length c)] w (Ret (fun v w' => ∃ A' c', v = .slice A' l.length c' ∧ NewRow w w' 66 8 LR.cs l A' c' ∧ (A = none ↔ A' = none) ∧ Ext w w')) := by
 refine calls_y (n := 8) Tryz.func81 ?_
 refine go ?_
 refine yOp (ox_eqlSlice (A := A) (B := none) tU_22.h rfl rfl (.inr rfl) ?_)
 refine go ?_
 refine y_if (fun h1 => ?_) (fun h1 => ?_)
 ·
  refine go ?_
  refine y_r1 ?_
  obtain rfl : l = [] := row_nil LR.len (by decide) (by rw [h1] at hA; exact hA)
  exact ⟨none, 0, rfl, ⟨Vx.Own.nil _ _ _, fun k hk => by simp [Value.ownBlock] at hk⟩, by simp [h1], (Chg.refl _ _)⟩
 ·
  refine go ?_
  refine yOp (ox_mkSlice (ps := []) (zs := #[]) (cs := #[]) tE_22.h rfl (by decide) (by kernel_rfl) (by kernel_rfl) ?_)
  intro w1 e1 z1 b1
  replace b1 : Blk w1 w.heap.size #[] 66 := b1
  refine go ?_
  refine yOp (ox_appR (l := ([])) (r := l) (cs := LR.cs) rfl tE_22.h rfl (by decide) LR.len LR.one (v := (.slice (some ⟨w.heap.size, 0, none⟩) 0 0)) rfl rfl (Vx.Own.lit (n := 0) (sz := 8) b1 rfl (by decide)) (RowA.ext hA e1) (by simp only [List.nil_append]; omega) (by decide) ?_)
  intro A1 c1 w2 o1 e2 at1 hc1
  have he2 := e2.size
  replace at1 : (Value.slice A1 (l).length c1).ownBlock = ((.slice (some ⟨w.heap.size, 0, none⟩) 0 0) : Value).ownBlock ∨ (Value.slice A1 (l).length c1).ownBlock = some w1.heap.size := at1
  replace o1 : Vx.Own w2 66 8 (.slice A1 (l).length c1) (l).length ((l).flatMap LR.cs) := o1
  have low1 : ∀ _k, (Value.slice A1 (l).length c1).ownBlock = some _k → w.heap.size ≤ _k := fun _k _h => by rcases at1 with _e | _e <;> rw [_e] at _h; exact (fun _k _h => by simp [Value.ownBlock] at _h; omega) _k _h; exact (by cases _h; omega)
  refine go ?_
  refine y_r1 ?_
  have x1 : Ext w w2 := (Chg.trans e1 e2 (fun b hb hl => (absurd hl (by have _h := (fun _k _h => by simp [Value.ownBlock] at _h; omega) b hb; omega))))
  exact ⟨A1, c1, rfl, ⟨o1, fun k hk => by have _h := low1 k hk; omega⟩, ⟨fun hh => absurd hh h1, fun hh => by subst hh; have _q := at1; simp [Value.ownBlock] at _q⟩, x1⟩
theorem cloneStr (l : List ByteArray) (A : Option Addr) (c : Nat) (w : World) (hA : RowA w A (l.flatMap strs)) (hn : l.length * 16 ≤ 140737488355328) :
    Calls Tryz.prog 83 #[(.slice A l.length c)] w (Ret (fun v w' => ∃ A' c', v = .slice A' l.length c' ∧ NewRow w w' 9 1 strs l A' c' ∧ (A = none ↔ A' = none) ∧ Ext w w')) := by
 refine calls_y (n := 8) Tryz.func83 ?_
 refine go ?_
 refine yOp (ox_eqlSlice (A := A) (B := none) tU_23.h rfl rfl (.inr rfl) ?_)
 refine go ?_
 refine y_if (fun h1 => ?_) (fun h1 => ?_)
 ·
  refine go ?_
  refine y_r1 ?_
  obtain rfl : l = [] := row_nil strs_len (by decide) (by rw [h1] at hA; exact hA)
  exact ⟨none, 0, rfl, ⟨Vx.Own.nil _ _ _, fun k hk => by simp [Value.ownBlock] at hk⟩, by simp [h1], (Chg.refl _ _)⟩
 ·
  refine go ?_
  refine yOp (ox_mkSlice (ps := []) (zs := #[]) (cs := #[]) tE_23.h rfl (by decide) (by kernel_rfl) (by kernel_rfl) ?_)
  intro w1 e1 z1 b1
  replace b1 : Blk w1 w.heap.size #[] 9 := b1
  refine go ?_
  refine yOp (ox_appR (l := ([])) (r := l) (cs := strs) rfl tE_23.h rfl (by decide) strs_len strs_one (v := (.slice (some ⟨w.heap.size, 0, none⟩) 0 0)) rfl rfl (Vx.Own.lit (n := 0) (sz := 1) b1 rfl (by decide)) (RowA.ext hA e1) (by simp only [List.nil_append]; omega) (by decide) ?_)
  intro A1 c1 w2 o1 e2 at1 hc1
  have he2 := e2.size
  replace at1 : (Value.slice A1 (l).length c1).ownBlock = ((.slice (some ⟨w.heap.size, 0, none⟩) 0 0) : Value).ownBlock ∨ (Value.slice A1 (l).length c1).ownBlock = some w1.heap.size := at1
  replace o1 : Vx.Own w2 9 1 (.slice A1 (l).length c1) (l).length ((l).flatMap strs) := o1
  have low1 : ∀ _k, (Value.slice A1 (l).length c1).ownBlock = some _k → w.heap.size ≤ _k := fun _k _h => by rcases at1 with _e | _e <;> rw [_e] at _h; exact (fun _k _h => by simp [Value.ownBlock] at _h; omega) _k _h; exact (by cases _h; omega)
  refine go ?_
  refine y_r1 ?_
  have x1 : Ext w w2 := (Chg.trans e1 e2 (fun b hb hl => (absurd hl (by have _h := (fun _k _h => by simp [Value.ownBlock] at _h; omega) b hb; omega))))
  exact ⟨A1, c1, rfl, ⟨o1, fun k hk => by have _h := low1 k hk; omega⟩, ⟨fun hh => absurd hh h1, fun hh => by subst hh; have _q := at1; simp [Value.ownBlock] at _q⟩, x1⟩
theorem clonePD (l : List PD) (A : Option Addr) (c : Nat) (w : World) (hA : RowA w A (l.flatMap PD.cs)) (hn : l.length * 32 ≤ 140737488355328) :
    Calls Tryz.prog 84 #[(.slice A l.length c)] w (Ret (fun v w' => ∃ A' c', v = .slice A' l.length c' ∧ NewRow w w' 37 2 PD.cs l A' c' ∧ (A = none ↔ A' = none) ∧ Ext w w')) := by
 refine calls_y (n := 8) Tryz.func84 ?_
 refine go ?_
 refine yOp (ox_eqlSlice (A := A) (B := none) tU_24.h rfl rfl (.inr rfl) ?_)
 refine go ?_
 refine y_if (fun h1 => ?_) (fun h1 => ?_)
 ·
  refine go ?_
  refine y_r1 ?_
  obtain rfl : l = [] := row_nil PD.len (by decide) (by rw [h1] at hA; exact hA)
  exact ⟨none, 0, rfl, ⟨Vx.Own.nil _ _ _, fun k hk => by simp [Value.ownBlock] at hk⟩, by simp [h1], (Chg.refl _ _)⟩
 ·
  refine go ?_
  refine yOp (ox_mkSlice (ps := []) (zs := #[]) (cs := #[]) tE_24.h rfl (by decide) (by kernel_rfl) (by kernel_rfl) ?_)
  intro w1 e1 z1 b1
  replace b1 : Blk w1 w.heap.size #[] 37 := b1
  refine go ?_
  refine yOp (ox_appR (l := ([])) (r := l) (cs := PD.cs) rfl tE_24.h rfl (by decide) PD.len PD.one (v := (.slice (some ⟨w.heap.size, 0, none⟩) 0 0)) rfl rfl (Vx.Own.lit (n := 0) (sz := 2) b1 rfl (by decide)) (RowA.ext hA e1) (by simp only [List.nil_append]; omega) (by decide) ?_)
  intro A1 c1 w2 o1 e2 at1 hc1
  have he2 := e2.size
  replace at1 : (Value.slice A1 (l).length c1).ownBlock = ((.slice (some ⟨w.heap.size, 0, none⟩) 0 0) : Value).ownBlock ∨ (Value.slice A1 (l).length c1).ownBlock = some w1.heap.size := at1
  replace o1 : Vx.Own w2 37 2 (.slice A1 (l).length c1) (l).length ((l).flatMap PD.cs) := o1
  have low1 : ∀ _k, (Value.slice A1 (l).length c1).ownBlock = some _k → w.heap.size ≤ _k := fun _k _h => by rcases at1 with _e | _e <;> rw [_e] at _h; exact (fun _k _h => by simp [Value.ownBlock] at _h; omega) _k _h; exact (by cases _h; omega)
  refine go ?_
  refine y_r1 ?_
  have x1 : Ext w w2 := (Chg.trans e1 e2 (fun b hb hl => (absurd hl (by have _h := (fun _k _h => by simp [Value.ownBlock] at _h; omega) b hb; omega))))
  exact ⟨A1, c1, rfl, ⟨o1, fun k hk => by have _h := low1 k hk; omega⟩, ⟨fun hh => absurd hh h1, fun hh => by subst hh; have _q := at1; simp [Value.ownBlock] at _q⟩, x1⟩
theorem cloneSym (l : List Sym) (A : Option Addr) (c : Nat) (w : World) (hA : RowA w A (l.flatMap Sym.cs)) (hn : l.length * 16 ≤ 140737488355328) :
    Calls Tryz.prog 85 #[(.slice A l.length c)] w (Ret (fun v w' => ∃ A' c', v = .slice A' l.length c' ∧ NewRow w w' 32 2 Sym.cs l A' c' ∧ (A = none ↔ A' = none) ∧ Ext w w')) := by
 refine calls_y (n := 8) Tryz.func85 ?_
 refine go ?_
 refine yOp (ox_eqlSlice (A := A) (B := none) tU_33.h rfl rfl (.inr rfl) ?_)
 refine go ?_
 refine y_if (fun h1 => ?_) (fun h1 => ?_)
 ·
  refine go ?_
  refine y_r1 ?_
  obtain rfl : l = [] := row_nil Sym.len (by decide) (by rw [h1] at hA; exact hA)
  exact ⟨none, 0, rfl, ⟨Vx.Own.nil _ _ _, fun k hk => by simp [Value.ownBlock] at hk⟩, by simp [h1], (Chg.refl _ _)⟩
 ·
  refine go ?_
  refine yOp (ox_mkSlice (ps := []) (zs := #[]) (cs := #[]) tE_33.h rfl (by decide) (by kernel_rfl) (by kernel_rfl) ?_)
  intro w1 e1 z1 b1
  replace b1 : Blk w1 w.heap.size #[] 32 := b1
  refine go ?_
  refine yOp (ox_appR (l := ([])) (r := l) (cs := Sym.cs) rfl tE_33.h rfl (by decide) Sym.len Sym.one (v := (.slice (some ⟨w.heap.size, 0, none⟩) 0 0)) rfl rfl (Vx.Own.lit (n := 0) (sz := 2) b1 rfl (by decide)) (RowA.ext hA e1) (by simp only [List.nil_append]; omega) (by decide) ?_)
  intro A1 c1 w2 o1 e2 at1 hc1
  have he2 := e2.size
  replace at1 : (Value.slice A1 (l).length c1).ownBlock = ((.slice (some ⟨w.heap.size, 0, none⟩) 0 0) : Value).ownBlock ∨ (Value.slice A1 (l).length c1).ownBlock = some w1.heap.size := at1
  replace o1 : Vx.Own w2 32 2 (.slice A1 (l).length c1) (l).length ((l).flatMap Sym.cs) := o1
  have low1 : ∀ _k, (Value.slice A1 (l).length c1).ownBlock = some _k → w.heap.size ≤ _k := fun _k _h => by rcases at1 with _e | _e <;> rw [_e] at _h; exact (fun _k _h => by simp [Value.ownBlock] at _h; omega) _k _h; exact (by cases _h; omega)
  refine go ?_
  refine y_r1 ?_
  have x1 : Ext w w2 := (Chg.trans e1 e2 (fun b hb hl => (absurd hl (by have _h := (fun _k _h => by simp [Value.ownBlock] at _h; omega) b hb; omega))))
  exact ⟨A1, c1, rfl, ⟨o1, fun k hk => by have _h := low1 k hk; omega⟩, ⟨fun hh => absurd hh h1, fun hh => by subst hh; have _q := at1; simp [Value.ownBlock] at _q⟩, x1⟩
theorem cloneEX (l : List EX) (A : Option Addr) (c : Nat) (w : World) (hA : RowA w A (l.flatMap EX.cs)) (hn : l.length * 64 ≤ 140737488355328) :
    Calls Tryz.prog 114 #[(.slice A l.length c)] w (Ret (fun v w' => ∃ A' c', v = .slice A' l.length c' ∧ NewRow w w' 64 6 EX.cs l A' c' ∧ (A = none ↔ A' = none) ∧ Ext w w')) := by
 refine calls_y (n := 8) Tryz.func114 ?_
 refine go ?_
 refine yOp (ox_eqlSlice (A := A) (B := none) tU_62.h rfl rfl (.inr rfl) ?_)
 refine go ?_
 refine y_if (fun h1 => ?_) (fun h1 => ?_)
 ·
  refine go ?_
  refine y_r1 ?_
  obtain rfl : l = [] := row_nil EX.len (by decide) (by rw [h1] at hA; exact hA)
  exact ⟨none, 0, rfl, ⟨Vx.Own.nil _ _ _, fun k hk => by simp [Value.ownBlock] at hk⟩, by simp [h1], (Chg.refl _ _)⟩
 ·
  refine go ?_
  refine yOp (ox_mkSlice (ps := []) (zs := #[]) (cs := #[]) tE_62.h rfl (by decide) (by kernel_rfl) (by kernel_rfl) ?_)
  intro w1 e1 z1 b1
  replace b1 : Blk w1 w.heap.size #[] 64 := b1
  refine go ?_
  refine yOp (ox_appR (l := ([])) (r := l) (cs := EX.cs) rfl tE_62.h rfl (by decide) EX.len EX.one (v := (.slice (some ⟨w.heap.size, 0, none⟩) 0 0)) rfl rfl (Vx.Own.lit (n := 0) (sz := 6) b1 rfl (by decide)) (RowA.ext hA e1) (by simp only [List.nil_append]; omega) (by decide) ?_)
  intro A1 c1 w2 o1 e2 at1 hc1
  have he2 := e2.size
  replace at1 : (Value.slice A1 (l).length c1).ownBlock = ((.slice (some ⟨w.heap.size, 0, none⟩) 0 0) : Value).ownBlock ∨ (Value.slice A1 (l).length c1).ownBlock = some w1.heap.size := at1
  replace o1 : Vx.Own w2 64 6 (.slice A1 (l).length c1) (l).length ((l).flatMap EX.cs) := o1
  have low1 : ∀ _k, (Value.slice A1 (l).length c1).ownBlock = some _k → w.heap.size ≤ _k := fun _k _h => by rcases at1 with _e | _e <;> rw [_e] at _h; exact (fun _k _h => by simp [Value.ownBlock] at _h; omega) _k _h; exact (by cases _h; omega)
  refine go ?_
  refine y_r1 ?_
  have x1 : Ext w w2 := (Chg.trans e1 e2 (fun b hb hl => (absurd hl (by have _h := (fun _k _h => by simp [Value.ownBlock] at _h; omega) b hb; omega))))
  exact ⟨A1, c1, rfl, ⟨o1, fun k hk => by have _h := low1 k hk; omega⟩, ⟨fun hh => absurd hh h1, fun hh => by subst hh; have _q := at1; simp [Value.ownBlock] at _q⟩, x1⟩
theorem indexB (l : List Bool) (A : Option Addr) (c : Nat) (y : Bool) (w : World) (hA : RowA w A (l.flatMap bools)) (hn : l.length ≤ 8796093022208) :
    Calls Tryz.prog 89 #[(.slice A l.length c), (.bool y)] w (Ret (fun v w' => v = .int .i64 (idxO y l 0) ∧ Ext w w')) := by
 refine calls_y (n := 19) Tryz.func89 ?_
 refine go ?_
 refine xc_loopN (fun m_ f_ Wx => ∃ (i : Nat), m_ = l.length - i ∧ (i ≤ l.length) ∧ (idxO y l 0 = idxO y (l.drop i) i) ∧ f_ 0 = (.slice A l.length c) ∧ f_ 1 = (.bool y) ∧ f_ 7 = (.int .i64 (((l.length : Nat) : Int))) ∧ f_ 8 = (.int .i64 ((i : Nat))) ∧ Ext w Wx) (l.length) ?_ ?_
 ·
  exact ⟨0, (by omega), (by omega), (by simp), rfl, rfl, rfl, vW, (Chg.refl _ _)⟩
 ·
  rintro m_ f1 w1 ⟨i, hm_f1, hi, hq, g0_f1, g1_f1, g7_f1, g8_f1, x1⟩
  have hx1 := x1.size
  rw [← usf g0_f1, ← usf g1_f1, ← usf g7_f1, ← usf g8_f1]
  refine go ?_
  refine y_if (fun h1 => ?_) (fun h1 => ?_)
  ·
   obtain ⟨x_1, g_1, o_1, hx_1⟩ := row_may (A := A) (cs := bools) i bools_len (by decide) (RowA.ext hA x1)
   obtain ⟨hx_2, hA_1, hc_1⟩ := hx_1 oM
   refine go ?_
   refine y_ix i hA_1 ?_
   refine y_lc (CellsL.at1 hc_1 0 rfl) ?_
   refine yOp (ox_eqlBool (a := y) (b := x_1) tU_4 rfl rfl ?_)
   refine go ?_
   refine y_if (fun h2 => ?_) (fun h2 => ?_)
   ·
    refine go ?_
    refine y_r1 ?_
    exact ⟨by rw [hq, idxO_hit hx_2 (by simp_all)] <;> rfl, x1⟩
   ·
    refine go ?_
    refine y_add ?_
    refine go ?_
    exact ⟨rfl, l.length - (i + 1), by omega, i + 1, by omega, (by omega), (by rw [hq, idxO_next hx_2 (by simp_all)]), rfl, rfl, rfl, vW, x1⟩
  ·
   refine go ?_
   refine y_r1 ?_
   exact ⟨by rw [hq, idxO_end (by omega)] <;> rfl, x1⟩
theorem indexFSym (l : List Sym) (A : Option Addr) (c : Nat) (p : Sym → Bool) (G : Nat) (CB : List Value) (w : World) (hA : RowA w A (l.flatMap Sym.cs)) (hn : l.length ≤ 8796093022208) (hp : plainF Tryz.prog G = true) (hf : ∀ x ∈ l, ∀ W, Ext w W → Calls Tryz.prog G ([Value.agg (Sym.cs x).toArray] ++ CB).toArray W (Ret fun v W' => v = .bool (p x) ∧ Ext W W')) :
    Calls Tryz.prog 143 #[(.slice A l.length c), (.func (.func G) #[] CB.toArray)] w (Ret (fun v w' => ∃ r : Int, v = .int .i64 r ∧ (0 ≤ r ↔ l.any p = true) ∧ Ext w w')) := by
 refine calls_y (n := 19) Tryz.func143 ?_
 refine go ?_
 refine xc_loopN (fun m_ f_ Wx => ∃ (i : Nat), m_ = l.length - i ∧ (i ≤ l.length) ∧ (l.any p = (l.drop i).any p) ∧ f_ 0 = (.slice A l.length c) ∧ f_ 1 = (.func (.func G) #[] CB.toArray) ∧ f_ 7 = (.int .i64 (((l.length : Nat) : Int))) ∧ f_ 8 = (.int .i64 ((i : Nat))) ∧ Ext w Wx) (l.length) ?_ ?_
 ·
  exact ⟨0, (by omega), (by omega), (by simp), rfl, rfl, rfl, vW, (Chg.refl _ _)⟩
 ·
  rintro m_ f1 w1 ⟨i, hm_f1, hi, hq, g0_f1, g1_f1, g7_f1, g8_f1, x1⟩
  have hx1 := x1.size
  rw [← usf g0_f1, ← usf g1_f1, ← usf g7_f1, ← usf g8_f1]
  refine go ?_
  refine y_if (fun h1 => ?_) (fun h1 => ?_)
  ·
   obtain ⟨x_1, g_1, o_1, hx_1⟩ := row_may (A := A) (cs := Sym.cs) i Sym.len (by decide) (RowA.ext hA x1)
   obtain ⟨hx_2, hA_1, hc_1⟩ := hx_1 oM
   refine go ?_
   refine y_ix i hA_1 ?_
   refine y_lN (vs := [(.int .i64 x_1.kind), (.int .i64 x_1.n)]) hc_1 ?_
   refine yOp (ox_callV (cap := CB) (al := [(.agg #[(.int .i64 x_1.kind), (.int .i64 x_1.n)])]) hp rfl rfl (ret_mono (hf x_1 (List.mem_of_getElem? hx_2) w1 x1) ?_))
   rintro _ w2 ⟨rfl, e1⟩
   have he1 := e1.size
   refine go ?_
   refine xc_cond (b := (p x_1)) rfl (fun h2 => ?_) (fun h2 => ?_)
   ·
    have h2' := bS h2
    refine go ?_
    refine y_r1 ?_
    have x2 : Ext w w2 := (Ext.trans x1 e1)
    exact ⟨_, rfl, ⟨fun _ => List.any_eq_true.2 ⟨x_1, List.mem_of_getElem? hx_2, h2⟩, fun _ => by omega⟩, x2⟩
   ·
    have h2' := bS h2
    refine go ?_
    refine y_add ?_
    have x3 : Ext w w2 := (Ext.trans x1 e1)
    refine go ?_
    exact ⟨rfl, l.length - (i + 1), by omega, i + 1, by omega, (by omega), (by rw [hq, drop_get hx_2, List.any_cons, h2, Bool.false_or]), rfl, rfl, rfl, vW, x3⟩
  ·
   refine go ?_
   refine y_r1 ?_
   exact ⟨_, rfl, ⟨fun hh => absurd hh (by decide), fun hh => absurd hh (by rw [hq, List.drop_of_length_le (by omega)]; simp)⟩, x1⟩
theorem indexFPD (l : List PD) (A : Option Addr) (c : Nat) (p : PD → Bool) (G : Nat) (CB : List Value) (w : World) (hA : RowA w A (l.flatMap PD.cs)) (hn : l.length ≤ 8796093022208) (hp : plainF Tryz.prog G = true) (hf : ∀ x ∈ l, ∀ W, Ext w W → Calls Tryz.prog G ([Value.agg (PD.cs x).toArray] ++ CB).toArray W (Ret fun v W' => v = .bool (p x) ∧ Ext W W')) :
    Calls Tryz.prog 142 #[(.slice A l.length c), (.func (.func G) #[] CB.toArray)] w (Ret (fun v w' => ∃ r : Int, v = .int .i64 r ∧ (0 ≤ r ↔ l.any p = true) ∧ Ext w w')) := by
 refine calls_y (n := 19) Tryz.func142 ?_
 refine go ?_
 refine xc_loopN (fun m_ f_ Wx => ∃ (i : Nat), m_ = l.length - i ∧ (i ≤ l.length) ∧ (l.any p = (l.drop i).any p) ∧ f_ 0 = (.slice A l.length c) ∧ f_ 1 = (.func (.func G) #[] CB.toArray) ∧ f_ 7 = (.int .i64 (((l.length : Nat) : Int))) ∧ f_ 8 = (.int .i64 ((i : Nat))) ∧ Ext w Wx) (l.length) ?_ ?_
 ·
  exact ⟨0, (by omega), (by omega), (by simp), rfl, rfl, rfl, vW, (Chg.refl _ _)⟩
 ·
  rintro m_ f1 w1 ⟨i, hm_f1, hi, hq, g0_f1, g1_f1, g7_f1, g8_f1, x1⟩
  have hx1 := x1.size
  rw [← usf g0_f1, ← usf g1_f1, ← usf g7_f1, ← usf g8_f1]
  refine go ?_
  refine y_if (fun h1 => ?_) (fun h1 => ?_)
  ·
   obtain ⟨x_1, g_1, o_1, hx_1⟩ := row_may (A := A) (cs := PD.cs) i PD.len (by decide) (RowA.ext hA x1)
   obtain ⟨hx_2, hA_1, hc_1⟩ := hx_1 oM
   refine go ?_
   refine y_ix i hA_1 ?_
   refine y_lN (vs := [(.int .i64 x_1.left), (.slice x_1.rA x_1.right.length x_1.rc)]) hc_1 ?_
   refine yOp (ox_callV (cap := CB) (al := [(.agg #[(.int .i64 x_1.left), (.slice x_1.rA x_1.right.length x_1.rc)])]) hp rfl rfl (ret_mono (hf x_1 (List.mem_of_getElem? hx_2) w1 x1) ?_))
   rintro _ w2 ⟨rfl, e1⟩
   have he1 := e1.size
   refine go ?_
   refine xc_cond (b := (p x_1)) rfl (fun h2 => ?_) (fun h2 => ?_)
   ·
    have h2' := bS h2
    refine go ?_
    refine y_r1 ?_
    have x2 : Ext w w2 := (Ext.trans x1 e1)
    exact ⟨_, rfl, ⟨fun _ => List.any_eq_true.2 ⟨x_1, List.mem_of_getElem? hx_2, h2⟩, fun _ => by omega⟩, x2⟩
   ·
    have h2' := bS h2
    refine go ?_
    refine y_add ?_
    have x3 : Ext w w2 := (Ext.trans x1 e1)
    refine go ?_
    exact ⟨rfl, l.length - (i + 1), by omega, i + 1, by omega, (by omega), (by rw [hq, drop_get hx_2, List.any_cons, h2, Bool.false_or]), rfl, rfl, rfl, vW, x3⟩
  ·
   refine go ?_
   refine y_r1 ?_
   exact ⟨_, rfl, ⟨fun hh => absurd hh (by decide), fun hh => absurd hh (by rw [hq, List.drop_of_length_le (by omega)]; simp)⟩, x1⟩
theorem containsFSym (l : List Sym) (A : Option Addr) (c : Nat) (p : Sym → Bool) (G : Nat) (CB : List Value) (w : World) (hA : RowA w A (l.flatMap Sym.cs)) (hn : l.length ≤ 8796093022208) (hp : plainF Tryz.prog G = true) (hf : ∀ x ∈ l, ∀ W, Ext w W → Calls Tryz.prog G ([Value.agg (Sym.cs x).toArray] ++ CB).toArray W (Ret fun v W' => v = .bool (p x) ∧ Ext W W')) :
    Calls Tryz.prog 123 #[(.slice A l.length c), (.func (.func G) #[] CB.toArray)] w (Ret (fun v w' => v = .bool (l.any p) ∧ Ext w w')) := by
 refine calls_y (n := 9) Tryz.func123 ?_
 refine go ?_
 refine yCa (ret_mono (indexFSym l A c p G CB w hA hn hp hf) ?_)
 rintro _ w1 ⟨r1, rfl, hr1, e1⟩
 have he1 := e1.size
 refine go ?_
 refine y_r1 ?_
 exact ⟨congrArg Value.bool (by rw [Bool.eq_iff_iff, decide_eq_true_iff]; exact hr1), e1⟩
theorem containsFPD (l : List PD) (A : Option Addr) (c : Nat) (p : PD → Bool) (G : Nat) (CB : List Value) (w : World) (hA : RowA w A (l.flatMap PD.cs)) (hn : l.length ≤ 8796093022208) (hp : plainF Tryz.prog G = true) (hf : ∀ x ∈ l, ∀ W, Ext w W → Calls Tryz.prog G ([Value.agg (PD.cs x).toArray] ++ CB).toArray W (Ret fun v W' => v = .bool (p x) ∧ Ext W W')) :
    Calls Tryz.prog 115 #[(.slice A l.length c), (.func (.func G) #[] CB.toArray)] w (Ret (fun v w' => v = .bool (l.any p) ∧ Ext w w')) := by
 refine calls_y (n := 9) Tryz.func115 ?_
 refine go ?_
 refine yCa (ret_mono (indexFPD l A c p G CB w hA hn hp hf) ?_)
 rintro _ w1 ⟨r1, rfl, hr1, e1⟩
 have he1 := e1.size
 refine go ?_
 refine y_r1 ?_
 exact ⟨congrArg Value.bool (by rw [Bool.eq_iff_iff, decide_eq_true_iff]; exact hr1), e1⟩
theorem bang_of {α : Type} [Inhabited α] {l : List α} {i : Nat} {x : α} (h : l[i]? = some x) : l[i]! = x := by
  rw [getElem!_def, h]
def symE (g : GD) (x : Sym) : Int :=
  if x.kind = 1 then (if 0 ≤ x.n ∧ x.n < g.triv.length then (if g.triv[x.n.toNat]! = true then 71 else 0) else 70)
  else if x.kind = 2 then (if x.n = 0 then 0 else 70)
  else if x.kind = 3 then (if 0 ≤ x.n ∧ x.n < g.names then 0 else 70) else 70
def longG (g : GD) : Bool := decide (64 < (g.triv.length : Int)) || decide (128 < (g.names : Int)) || decide (512 < (g.prods.length : Int)) || g.prods.any (fun p => decide (16 < (p.2.length : Int)))
def faultV (e at_ : Int) : Value := .agg #[.int .i64 e, .int .i64 at_, .string ⟨#[]⟩]
def rowE (g : GD) : List Sym → Int
  | [] => 0
  | x :: r => if symE g x = 0 then rowE g r else symE g x
def indP (g : GD) : List P2 → Nat → Int × Int
  | [], _ => (0, 0)
  | p :: r, i => if p.1 < 0 ∨ (g.names : Int) ≤ p.1 then (70, (i : Nat)) else if rowE g p.2 = 0 then indP g r (i + 1) else (rowE g p.2, (i : Nat))
def indG (g : GD) : Int × Int := if g.start < 0 ∨ (g.names : Int) ≤ g.start then (70, -1) else indP g g.prods 0
theorem rowE_hit {g : GD} {l : List Sym} {k : Nat} {y : Sym} (h : l[k]? = some y) (e : ¬ (symE g y = 0)) : rowE g (l.drop k) = symE g y := by rw [drop_get h, rowE, if_neg e]
theorem rowE_next {g : GD} {l : List Sym} {k : Nat} {y : Sym} (h : l[k]? = some y) (e : symE g y = 0) : rowE g (l.drop k) = rowE g (l.drop (k + 1)) := by rw [drop_get h, rowE, if_pos e]
theorem indG_start {g : GD} (h : g.start < 0 ∨ (g.names : Int) ≤ g.start) : indG g = (70, -1) := by unfold indG; rw [if_pos h]
theorem indG_go {s : SP} (h : 0 ≤ s.start ∧ s.start < (s.names.length : Int)) : indG s.g = indP s.g s.g.prods 0 := by unfold indG; rw [if_neg]; show ¬ (s.start < 0 ∨ (s.names.length : Int) ≤ s.start); omega
theorem indP_left {g : GD} {p : P2} {r : List P2} {i : Nat} (h : p.1 < 0 ∨ (g.names : Int) ≤ p.1) : indP g (p :: r) i = (70, ((i : Nat) : Int)) := by rw [indP, if_pos h]
theorem indP_sym {g : GD} {p : P2} {r : List P2} {i : Nat} (h : 0 ≤ p.1 ∧ p.1 < (g.names : Int)) {e : Int} (he : rowE g p.2 = e) (h0 : ¬ (e = 0)) : indP g (p :: r) i = (e, ((i : Nat) : Int)) := by rw [indP, if_neg (by omega), he, if_neg h0]
theorem indP_next {g : GD} {p : P2} {r : List P2} {i : Nat} (h : 0 ≤ p.1 ∧ p.1 < (g.names : Int)) (he : rowE g p.2 = 0) : indP g (p :: r) i = indP g r (i + 1) := by rw [indP, if_neg (by omega), if_pos he]
instance pf_115 : PlF Tryz.prog 115 := ⟨by kernel_rfl⟩
instance pf_116 : PlF Tryz.prog 116 := ⟨by kernel_rfl⟩
instance pf_117 : PlF Tryz.prog 117 := ⟨by kernel_rfl⟩
instance tA_22 : AggF Tryz.prog 22 := ⟨by kernel_rfl⟩
instance tA_23 : AggF Tryz.prog 23 := ⟨by kernel_rfl⟩
instance tA_24 : AggF Tryz.prog 24 := ⟨by kernel_rfl⟩
instance tA_26 : AggT Tryz.prog 26 := ⟨by kernel_rfl⟩
instance tA_3 : AggF Tryz.prog 3 := ⟨by kernel_rfl⟩
instance tA_33 : AggF Tryz.prog 33 := ⟨by kernel_rfl⟩
instance tA_75 : AggT Tryz.prog 75 := ⟨by kernel_rfl⟩
instance tF_26_0 : FdT Tryz.prog 26 0 0 := ⟨by kernel_rfl⟩
instance tF_26_1 : FdT Tryz.prog 26 1 1 := ⟨by kernel_rfl⟩
instance tF_26_2 : FdT Tryz.prog 26 2 2 := ⟨by kernel_rfl⟩
instance tF_26_3 : FdT Tryz.prog 26 3 3 := ⟨by kernel_rfl⟩
instance tF_32_0 : FdT Tryz.prog 32 0 0 := ⟨by kernel_rfl⟩
instance tF_32_1 : FdT Tryz.prog 32 1 1 := ⟨by kernel_rfl⟩
instance tF_37_0 : FdT Tryz.prog 37 0 0 := ⟨by kernel_rfl⟩
instance tF_37_1 : FdT Tryz.prog 37 1 1 := ⟨by kernel_rfl⟩
instance tF_66_1 : FdT Tryz.prog 66 1 1 := ⟨by kernel_rfl⟩
instance tP_75 : PcT Tryz.prog 75 #[(0, 1), (1, 1), (2, 1)] := ⟨by kernel_rfl⟩
instance tS_26 : SzT Tryz.prog 26 4 := ⟨by kernel_rfl⟩
instance tS_75 : SzT Tryz.prog 75 3 := ⟨by kernel_rfl⟩
instance tZ_32 : ZrT Tryz.prog 32 (.agg #[(.int .i64 0), (.int .i64 0)]) := ⟨by kernel_rfl⟩
instance tZ_37 : ZrT Tryz.prog 37 (.agg #[(.int .i64 0), (.slice none 0 0)]) := ⟨by kernel_rfl⟩
instance tZ_75 : ZrT Tryz.prog 75 (.agg #[(.int .i64 0), (.int .i64 0), (.string (⟨#[]⟩))]) := ⟨by kernel_rfl⟩
theorem symbol_calls (s : SP) (x : Sym) (w : World) (hS : SpR w s) :
    Calls Tryz.prog 117 #[(.agg #[(.slice s.lA s.lex.length s.lc), (.slice s.nA s.names.length s.nc), (.int .i64 s.start), (.slice s.pA s.prods.length s.pc)]), (.agg #[(.int .i64 x.kind), (.int .i64 x.n)])] w (Ret (fun v w' => v = .int .i64 (symE s.g x) ∧ Ext w w')) := by
 have hfl := hS.fl; have hfn := hS.fn; unfold few at hfl hfn
 refine calls_y (n := 51) Tryz.func117 ?_
 refine go ?_
 refine y_bx ?_
 intro w1 e1 z1 b1
 refine y_bx ?_
 intro w2 e2 z2 b2
 refine go ?_
 refine y_ld b2 ?_
 refine go ?_
 refine y_if (fun h1 => ?_) (fun h1 => ?_)
 ·
  refine go ?_
  refine y_ld b2 ?_
  refine go ?_
  refine xl_may (P := Tryz.prog) (some 14) (j := 3) (b := true) (((decide ((0 : Int) ≤ x.n))) = true) (.bool (decide ((0 : Int) ≤ x.n))) (.pointer (some ⟨w1.heap.size, 1, none⟩)) rfl rfl rfl (may_b ((decide ((0 : Int) ≤ x.n))) true) (fun hp => ox_fieldAddr (b := w1.heap.size) (o := 0) tF_32_1.h rfl ⟨rfl, rfl⟩) ?_
  refine xl_may (P := Tryz.prog) (some 15) (j := 3) (b := true) (((decide ((0 : Int) ≤ x.n))) = true) (.bool (decide ((0 : Int) ≤ x.n))) (.int .i64 x.n) rfl rfl rfl (may_b ((decide ((0 : Int) ≤ x.n))) true) (fun hp => ox_load (v := (.int .i64 x.n)) tA_3.h (if_pos (α := Value) (t := (.pointer (some ⟨w1.heap.size, 1, none⟩))) (e := undef) hp) (b2.cell rfl) ⟨rfl, rfl⟩) ?_
  refine xl_may (P := Tryz.prog) (some 16) (j := 3) (b := true) (((decide ((0 : Int) ≤ x.n))) = true) (.bool (decide ((0 : Int) ≤ x.n))) (.pointer (some ⟨w.heap.size, 0, none⟩)) rfl rfl rfl (may_b ((decide ((0 : Int) ≤ x.n))) true) (fun hp => ox_fieldAddr (b := w.heap.size) (o := 0) tF_26_0.h rfl ⟨rfl, rfl⟩) ?_
  refine xl_may (P := Tryz.prog) (some 17) (j := 3) (b := true) (((decide ((0 : Int) ≤ x.n))) = true) (.bool (decide ((0 : Int) ≤ x.n))) (.slice s.lA s.lex.length s.lc) rfl rfl rfl (may_b ((decide ((0 : Int) ≤ x.n))) true) (fun hp => ox_load (v := (.slice s.lA s.lex.length s.lc)) tA_22.h (if_pos (α := Value) (t := (.pointer (some ⟨w.heap.size, 0, none⟩))) (e := undef) hp) ((b1.ext e2).cell rfl) ⟨rfl, rfl⟩) ?_
  refine xl_may (P := Tryz.prog) (some 18) (j := 3) (b := true) (((decide ((0 : Int) ≤ x.n))) = true) (.bool (decide ((0 : Int) ≤ x.n))) (.int .i64 (((s.lex.length : Nat) : Int))) rfl rfl rfl (may_b ((decide ((0 : Int) ≤ x.n))) true) (fun hp => ox_len (A := s.lA) (n := s.lex.length) (cp := s.lc) rfl tU_22.h (if_pos (α := Value) (t := (.slice s.lA s.lex.length s.lc)) (e := undef) hp) ⟨rfl, rfl⟩) ?_
  refine xl_may (P := Tryz.prog) (some 19) (j := 3) (b := true) (((decide ((0 : Int) ≤ x.n))) = true) (.bool (decide ((0 : Int) ≤ x.n))) (.bool (decide ((x.n : Int) < (((s.lex.length : Nat) : Int))))) rfl rfl rfl (may_b ((decide ((0 : Int) ≤ x.n))) true) (fun hp => ox_lss (k := .i64) (a := x.n) (b := (((s.lex.length : Nat) : Int))) (if_pos (α := Value) (t := (.int .i64 x.n)) (e := undef) hp) (if_pos (α := Value) (t := (.int .i64 (((s.lex.length : Nat) : Int)))) (e := undef) hp) ⟨rfl, rfl⟩) ?_
  refine yOp (ox_pick_and (a := ((decide ((0 : Int) ≤ x.n)))) (b := ((decide ((x.n : Int) < (((s.lex.length : Nat) : Int)))))) rfl (fun ha => (if_pos (α := Value) (t := (.bool (decide ((x.n : Int) < (((s.lex.length : Nat) : Int)))))) (e := undef) ha)) rfl ?_)
  refine go ?_
  refine xl_may (P := Tryz.prog) (some 23) (j := 1) (b := true) (((((decide ((0 : Int) ≤ x.n))) && ((decide ((x.n : Int) < (((s.lex.length : Nat) : Int))))))) = true) (.bool (((decide ((0 : Int) ≤ x.n))) && ((decide ((x.n : Int) < (((s.lex.length : Nat) : Int))))))) (.pointer (some ⟨w.heap.size, 0, none⟩)) rfl rfl rfl (may_b ((((decide ((0 : Int) ≤ x.n))) && ((decide ((x.n : Int) < (((s.lex.length : Nat) : Int))))))) true) (fun hp => ox_fieldAddr (b := w.heap.size) (o := 0) tF_26_0.h rfl ⟨rfl, rfl⟩) ?_
  refine xl_may (P := Tryz.prog) (some 24) (j := 1) (b := true) (((((decide ((0 : Int) ≤ x.n))) && ((decide ((x.n : Int) < (((s.lex.length : Nat) : Int))))))) = true) (.bool (((decide ((0 : Int) ≤ x.n))) && ((decide ((x.n : Int) < (((s.lex.length : Nat) : Int))))))) (.slice s.lA s.lex.length s.lc) rfl rfl rfl (may_b ((((decide ((0 : Int) ≤ x.n))) && ((decide ((x.n : Int) < (((s.lex.length : Nat) : Int))))))) true) (fun hp => ox_load (v := (.slice s.lA s.lex.length s.lc)) tA_22.h (if_pos (α := Value) (t := (.pointer (some ⟨w.heap.size, 0, none⟩))) (e := undef) hp) ((b1.ext e2).cell rfl) ⟨rfl, rfl⟩) ?_
  refine xl_may (P := Tryz.prog) (some 25) (j := 1) (b := true) (((((decide ((0 : Int) ≤ x.n))) && ((decide ((x.n : Int) < (((s.lex.length : Nat) : Int))))))) = true) (.bool (((decide ((0 : Int) ≤ x.n))) && ((decide ((x.n : Int) < (((s.lex.length : Nat) : Int))))))) (.pointer (some ⟨w1.heap.size, 1, none⟩)) rfl rfl rfl (may_b ((((decide ((0 : Int) ≤ x.n))) && ((decide ((x.n : Int) < (((s.lex.length : Nat) : Int))))))) true) (fun hp => ox_fieldAddr (b := w1.heap.size) (o := 0) tF_32_1.h rfl ⟨rfl, rfl⟩) ?_
  refine xl_may (P := Tryz.prog) (some 26) (j := 1) (b := true) (((((decide ((0 : Int) ≤ x.n))) && ((decide ((x.n : Int) < (((s.lex.length : Nat) : Int))))))) = true) (.bool (((decide ((0 : Int) ≤ x.n))) && ((decide ((x.n : Int) < (((s.lex.length : Nat) : Int))))))) (.int .i64 x.n) rfl rfl rfl (may_b ((((decide ((0 : Int) ≤ x.n))) && ((decide ((x.n : Int) < (((s.lex.length : Nat) : Int))))))) true) (fun hp => ox_load (v := (.int .i64 x.n)) tA_3.h (if_pos (α := Value) (t := (.pointer (some ⟨w1.heap.size, 1, none⟩))) (e := undef) hp) (b2.cell rfl) ⟨rfl, rfl⟩) ?_
  have x1 : Ext w w2 := (Ext.trans e1 e2)
  obtain ⟨x_1, g_1, o_1, hx_1⟩ := row_may (A := s.lA) (cs := LR.cs) x.n.toNat LR.len (by decide) (RowA.ext hS.lex x1)
  refine xl_may (P := Tryz.prog) (some 27) (j := 1) (b := true) (((((decide ((0 : Int) ≤ x.n))) && ((decide ((x.n : Int) < (((s.lex.length : Nat) : Int))))))) = true) (.bool (((decide ((0 : Int) ≤ x.n))) && ((decide ((x.n : Int) < (((s.lex.length : Nat) : Int))))))) (.pointer (some ⟨g_1, o_1 + x.n.toNat * 8, none⟩)) rfl rfl rfl (may_b ((((decide ((0 : Int) ≤ x.n))) && ((decide ((x.n : Int) < (((s.lex.length : Nat) : Int))))))) true) (fun hp => by have hp' := hp; (try simp only [Bool.or_eq_true, Bool.and_eq_true, decide_eq_true_eq, Bool.or_eq_false_iff, Bool.and_eq_false_iff, decide_eq_false_iff_not, Bool.not_eq_true', Bool.not_eq_false'] at hp'); exact ox_ixA (b := g_1) (o := o_1) (i := x.n) x.n.toNat tE_22.h (hx_1 (by omega)).2.1 (if_pos (α := Value) (t := (.slice s.lA s.lex.length s.lc)) (e := undef) hp) (if_pos (α := Value) (t := (.int .i64 x.n)) (e := undef) hp) (by omega) (by omega) ⟨rfl, rfl⟩) ?_
  refine xl_may (P := Tryz.prog) (some 28) (j := 1) (b := true) (((((decide ((0 : Int) ≤ x.n))) && ((decide ((x.n : Int) < (((s.lex.length : Nat) : Int))))))) = true) (.bool (((decide ((0 : Int) ≤ x.n))) && ((decide ((x.n : Int) < (((s.lex.length : Nat) : Int))))))) (.pointer (some ⟨g_1, o_1 + x.n.toNat * 8 + 1, none⟩)) rfl rfl rfl (may_b ((((decide ((0 : Int) ≤ x.n))) && ((decide ((x.n : Int) < (((s.lex.length : Nat) : Int))))))) true) (fun hp => ox_fieldAddr (b := g_1) (o := (o_1 + x.n.toNat * 8)) tF_66_1.h (if_pos (α := Value) (t := (.pointer (some ⟨g_1, o_1 + x.n.toNat * 8, none⟩))) (e := undef) hp) ⟨rfl, rfl⟩) ?_
  refine xl_may (P := Tryz.prog) (some 29) (j := 1) (b := true) (((((decide ((0 : Int) ≤ x.n))) && ((decide ((x.n : Int) < (((s.lex.length : Nat) : Int))))))) = true) (.bool (((decide ((0 : Int) ≤ x.n))) && ((decide ((x.n : Int) < (((s.lex.length : Nat) : Int))))))) (.bool x_1.trivia) rfl rfl rfl (may_b ((((decide ((0 : Int) ≤ x.n))) && ((decide ((x.n : Int) < (((s.lex.length : Nat) : Int))))))) true) (fun hp => by have hp' := hp; (try simp only [Bool.or_eq_true, Bool.and_eq_true, decide_eq_true_eq, Bool.or_eq_false_iff, Bool.and_eq_false_iff, decide_eq_false_iff_not, Bool.not_eq_true', Bool.not_eq_false'] at hp'); exact ox_load (v := (.bool x_1.trivia)) tA_4.h (if_pos (α := Value) (t := (.pointer (some ⟨g_1, o_1 + x.n.toNat * 8 + 1, none⟩))) (e := undef) hp) (CellsL.at1 (hx_1 (by omega)).2.2 1 rfl) ⟨rfl, rfl⟩) ?_
  refine yOp (ox_pick_and (a := ((((decide ((0 : Int) ≤ x.n))) && ((decide ((x.n : Int) < (((s.lex.length : Nat) : Int)))))))) (b := x_1.trivia) rfl (fun ha => (if_pos (α := Value) (t := (.bool x_1.trivia)) (e := undef) ha)) rfl ?_)
  refine go ?_
  refine xc_cond (b := (((((decide ((0 : Int) ≤ x.n))) && ((decide ((x.n : Int) < (((s.lex.length : Nat) : Int))))))) && x_1.trivia)) rfl (fun h2 => ?_) (fun h2 => ?_)
  ·
   have h2' := bS h2
   refine go ?_
   refine y_r1 ?_
   have htr : x.n.toNat < s.lex.length → s.g.triv[x.n.toNat]! = x_1.trivia := fun hh => bang_of (map_get (hx_1 hh).1)
   exact ⟨congrArg (Value.int .i64) (by have hgl := s.glex; have hgn : s.g.names = s.names.length := rfl; unfold symE; rw [hgl, hgn]; clear hS; (try have h9 := htr (by omega)); repeat' split; all_goals first | rfl | (exfalso; omega) | (simp_all; done) | (simp_all; omega)), x1⟩
  ·
   have h2' := bS h2
   refine go ?_
   refine xc_cond (b := (!(((decide ((0 : Int) ≤ x.n))) && ((decide ((x.n : Int) < (((s.lex.length : Nat) : Int)))))))) rfl (fun h3 => ?_) (fun h3 => ?_)
   ·
    have h3' := bS h3
    refine go ?_
    refine y_r1 ?_
    have htr : x.n.toNat < s.lex.length → s.g.triv[x.n.toNat]! = x_1.trivia := fun hh => bang_of (map_get (hx_1 hh).1)
    exact ⟨congrArg (Value.int .i64) (by have hgl := s.glex; have hgn : s.g.names = s.names.length := rfl; unfold symE; rw [hgl, hgn]; clear hS; (try have h9 := htr (by omega)); repeat' split; all_goals first | rfl | (exfalso; omega) | (simp_all; done) | (simp_all; omega)), x1⟩
   ·
    have h3' := bS h3
    refine go ?_
    refine y_r1 ?_
    have htr : x.n.toNat < s.lex.length → s.g.triv[x.n.toNat]! = x_1.trivia := fun hh => bang_of (map_get (hx_1 hh).1)
    exact ⟨congrArg (Value.int .i64) (by have hgl := s.glex; have hgn : s.g.names = s.names.length := rfl; unfold symE; rw [hgl, hgn]; clear hS; (try have h9 := htr (by omega)); repeat' split; all_goals first | rfl | (exfalso; omega) | (simp_all; done) | (simp_all; omega)), x1⟩
 ·
  refine go ?_
  refine y_if (fun h4 => ?_) (fun h4 => ?_)
  ·
   refine go ?_
   refine y_ld b2 ?_
   refine go ?_
   refine xc_cond (b := (!decide ((x.n : Int) = 0))) rfl (fun h5 => ?_) (fun h5 => ?_)
   ·
    have h5' := bS h5
    refine go ?_
    refine y_r1 ?_
    have htr := True.intro
    have x2 : Ext w w2 := (Ext.trans e1 e2)
    exact ⟨congrArg (Value.int .i64) (by have hgl := s.glex; have hgn : s.g.names = s.names.length := rfl; unfold symE; rw [hgl, hgn]; clear hS; (try have h9 := htr (by omega)); repeat' split; all_goals first | rfl | (exfalso; omega) | (simp_all; done) | (simp_all; omega)), x2⟩
   ·
    have h5' := bS h5
    refine go ?_
    refine y_r1 ?_
    have htr := True.intro
    have x3 : Ext w w2 := (Ext.trans e1 e2)
    exact ⟨congrArg (Value.int .i64) (by have hgl := s.glex; have hgn : s.g.names = s.names.length := rfl; unfold symE; rw [hgl, hgn]; clear hS; (try have h9 := htr (by omega)); repeat' split; all_goals first | rfl | (exfalso; omega) | (simp_all; done) | (simp_all; omega)), x3⟩
  ·
   refine go ?_
   refine y_if (fun h6 => ?_) (fun h6 => ?_)
   ·
    refine go ?_
    refine y_ld b2 ?_
    refine go ?_
    refine xl_may (P := Tryz.prog) (some 42) (j := 3) (b := true) (((decide ((0 : Int) ≤ x.n))) = true) (.bool (decide ((0 : Int) ≤ x.n))) (.pointer (some ⟨w1.heap.size, 1, none⟩)) rfl rfl rfl (may_b ((decide ((0 : Int) ≤ x.n))) true) (fun hp => ox_fieldAddr (b := w1.heap.size) (o := 0) tF_32_1.h rfl ⟨rfl, rfl⟩) ?_
    refine xl_may (P := Tryz.prog) (some 43) (j := 3) (b := true) (((decide ((0 : Int) ≤ x.n))) = true) (.bool (decide ((0 : Int) ≤ x.n))) (.int .i64 x.n) rfl rfl rfl (may_b ((decide ((0 : Int) ≤ x.n))) true) (fun hp => ox_load (v := (.int .i64 x.n)) tA_3.h (if_pos (α := Value) (t := (.pointer (some ⟨w1.heap.size, 1, none⟩))) (e := undef) hp) (b2.cell rfl) ⟨rfl, rfl⟩) ?_
    refine xl_may (P := Tryz.prog) (some 44) (j := 3) (b := true) (((decide ((0 : Int) ≤ x.n))) = true) (.bool (decide ((0 : Int) ≤ x.n))) (.pointer (some ⟨w.heap.size, 1, none⟩)) rfl rfl rfl (may_b ((decide ((0 : Int) ≤ x.n))) true) (fun hp => ox_fieldAddr (b := w.heap.size) (o := 0) tF_26_1.h rfl ⟨rfl, rfl⟩) ?_
    refine xl_may (P := Tryz.prog) (some 45) (j := 3) (b := true) (((decide ((0 : Int) ≤ x.n))) = true) (.bool (decide ((0 : Int) ≤ x.n))) (.slice s.nA s.names.length s.nc) rfl rfl rfl (may_b ((decide ((0 : Int) ≤ x.n))) true) (fun hp => ox_load (v := (.slice s.nA s.names.length s.nc)) tA_23.h (if_pos (α := Value) (t := (.pointer (some ⟨w.heap.size, 1, none⟩))) (e := undef) hp) ((b1.ext e2).cell rfl) ⟨rfl, rfl⟩) ?_
    refine xl_may (P := Tryz.prog) (some 46) (j := 3) (b := true) (((decide ((0 : Int) ≤ x.n))) = true) (.bool (decide ((0 : Int) ≤ x.n))) (.int .i64 (((s.names.length : Nat) : Int))) rfl rfl rfl (may_b ((decide ((0 : Int) ≤ x.n))) true) (fun hp => ox_len (A := s.nA) (n := s.names.length) (cp := s.nc) rfl tU_23.h (if_pos (α := Value) (t := (.slice s.nA s.names.length s.nc)) (e := undef) hp) ⟨rfl, rfl⟩) ?_
    refine xl_may (P := Tryz.prog) (some 47) (j := 3) (b := true) (((decide ((0 : Int) ≤ x.n))) = true) (.bool (decide ((0 : Int) ≤ x.n))) (.bool (decide ((x.n : Int) < (((s.names.length : Nat) : Int))))) rfl rfl rfl (may_b ((decide ((0 : Int) ≤ x.n))) true) (fun hp => ox_lss (k := .i64) (a := x.n) (b := (((s.names.length : Nat) : Int))) (if_pos (α := Value) (t := (.int .i64 x.n)) (e := undef) hp) (if_pos (α := Value) (t := (.int .i64 (((s.names.length : Nat) : Int)))) (e := undef) hp) ⟨rfl, rfl⟩) ?_
    refine yOp (ox_pick_and (a := ((decide ((0 : Int) ≤ x.n)))) (b := ((decide ((x.n : Int) < (((s.names.length : Nat) : Int)))))) rfl (fun ha => (if_pos (α := Value) (t := (.bool (decide ((x.n : Int) < (((s.names.length : Nat) : Int)))))) (e := undef) ha)) rfl ?_)
    refine go ?_
    refine xc_cond (b := (!(((decide ((0 : Int) ≤ x.n))) && ((decide ((x.n : Int) < (((s.names.length : Nat) : Int)))))))) rfl (fun h7 => ?_) (fun h7 => ?_)
    ·
     have h7' := bS h7
     refine go ?_
     refine y_r1 ?_
     have htr := True.intro
     have x4 : Ext w w2 := (Ext.trans e1 e2)
     exact ⟨congrArg (Value.int .i64) (by have hgl := s.glex; have hgn : s.g.names = s.names.length := rfl; unfold symE; rw [hgl, hgn]; clear hS; (try have h9 := htr (by omega)); repeat' split; all_goals first | rfl | (exfalso; omega) | (simp_all; done) | (simp_all; omega)), x4⟩
    ·
     have h7' := bS h7
     refine go ?_
     refine y_r1 ?_
     have htr := True.intro
     have x5 : Ext w w2 := (Ext.trans e1 e2)
     exact ⟨congrArg (Value.int .i64) (by have hgl := s.glex; have hgn : s.g.names = s.names.length := rfl; unfold symE; rw [hgl, hgn]; clear hS; (try have h9 := htr (by omega)); repeat' split; all_goals first | rfl | (exfalso; omega) | (simp_all; done) | (simp_all; omega)), x5⟩
   ·
    refine go ?_
    refine y_r1 ?_
    have htr := True.intro
    have x6 : Ext w w2 := (Ext.trans e1 e2)
    exact ⟨congrArg (Value.int .i64) (by have hgl := s.glex; have hgn : s.g.names = s.names.length := rfl; unfold symE; rw [hgl, hgn]; clear hS; (try have h9 := htr (by omega)); repeat' split; all_goals first | rfl | (exfalso; omega) | (simp_all; done) | (simp_all; omega)), x6⟩
theorem long1_calls (p : PD) (w : World)  :
    Calls Tryz.prog 116 #[(.agg #[(.int .i64 p.left), (.slice p.rA p.right.length p.rc)])] w (Ret (fun v w' => v = .bool (decide (16 < (p.right.length : Int))) ∧ Ext w w')) := by
 refine calls_y (n := 7) Tryz.func116 ?_
 refine go ?_
 refine y_bx ?_
 intro w1 e1 z1 b1
 refine go ?_
 refine y_ld b1 ?_
 refine go ?_
 refine y_r1 ?_
 exact ⟨rfl, e1⟩
theorem long_calls (s : SP) (w : World) (hS : SpR w s) :
    Calls Tryz.prog 86 #[(.agg #[(.slice s.lA s.lex.length s.lc), (.slice s.nA s.names.length s.nc), (.int .i64 s.start), (.slice s.pA s.prods.length s.pc)])] w (Ret (fun v w' => v = .bool (longG s.g) ∧ Ext w w')) := by
 refine calls_y (n := 24) Tryz.func86 ?_
 refine go ?_
 refine y_bx ?_
 intro w1 e1 z1 b1
 refine go ?_
 refine y_ld b1 ?_
 refine go ?_
 by_cases h1 : (64 : Int) < (((s.lex.length : Nat) : Int))
 ·
  refine ysL (s := 7) (bT (decide_eq_true h1)) ?_
  refine go ?_
  refine y_r1 ?_
  exact ⟨congrArg Value.bool (by unfold longG; rw [s.glex, s.gprods, show s.g.names = s.names.length from rfl, show s.g.prods.any (fun p => decide (16 < (p.2.length : Int))) = s.prods.any (fun p => decide (16 < (p.right.length : Int))) from List.any_map]; (try simp only [decide_eq_true_eq] at *); first | (simp_all; done) | (rw [Bool.eq_iff_iff]; simp_all; omega)), e1⟩
 ·
  refine ysL (s := 7) (bF (decide_eq_false h1)) ?_
  refine go ?_
  refine y_ld b1 ?_
  refine go ?_
  by_cases h2 : (128 : Int) < (((s.names.length : Nat) : Int))
  ·
   refine ysL (s := 13) (bT (decide_eq_true h2)) ?_
   refine go ?_
   refine y_r1 ?_
   exact ⟨congrArg Value.bool (by unfold longG; rw [s.glex, s.gprods, show s.g.names = s.names.length from rfl, show s.g.prods.any (fun p => decide (16 < (p.2.length : Int))) = s.prods.any (fun p => decide (16 < (p.right.length : Int))) from List.any_map]; (try simp only [decide_eq_true_eq] at *); first | (simp_all; done) | (rw [Bool.eq_iff_iff]; simp_all; omega)), e1⟩
  ·
   refine ysL (s := 13) (bF (decide_eq_false h2)) ?_
   refine go ?_
   refine y_ld b1 ?_
   refine go ?_
   by_cases h3 : (512 : Int) < (((s.prods.length : Nat) : Int))
   ·
    refine ysL (s := 19) (bT (decide_eq_true h3)) ?_
    refine go ?_
    refine y_r1 ?_
    exact ⟨congrArg Value.bool (by unfold longG; rw [s.glex, s.gprods, show s.g.names = s.names.length from rfl, show s.g.prods.any (fun p => decide (16 < (p.2.length : Int))) = s.prods.any (fun p => decide (16 < (p.right.length : Int))) from List.any_map]; (try simp only [decide_eq_true_eq] at *); first | (simp_all; done) | (rw [Bool.eq_iff_iff]; simp_all; omega)), e1⟩
   ·
    refine ysL (s := 19) (bF (decide_eq_false h3)) ?_
    refine go ?_
    refine y_ld b1 ?_
    refine yCa (ret_mono (containsFPD s.prods s.pA s.pc (fun p => decide (16 < (p.right.length : Int))) 116 [] w1 (RowA.ext hS.prods e1) (by exact hS.fp.le) pf_116.h (fun p _ W _ => long1_calls p W)) ?_)
    rintro _ w2 ⟨rfl, e2⟩
    have he2 := e2.size
    refine go ?_
    refine y_r1 ?_
    have x1 : Ext w w2 := (Ext.trans e1 e2)
    exact ⟨congrArg Value.bool (by unfold longG; rw [s.glex, s.gprods, show s.g.names = s.names.length from rfl, show s.g.prods.any (fun p => decide (16 < (p.2.length : Int))) = s.prods.any (fun p => decide (16 < (p.right.length : Int))) from List.any_map]; (try simp only [decide_eq_true_eq] at *); first | (simp_all; done) | (rw [Bool.eq_iff_iff]; simp_all; omega)), x1⟩
theorem indices_calls (s : SP) (w : World) (hS : SpR w s) :
    Calls Tryz.prog 87 #[(.agg #[(.slice s.lA s.lex.length s.lc), (.slice s.nA s.names.length s.nc), (.int .i64 s.start), (.slice s.pA s.prods.length s.pc)])] w (Ret (fun v w' => v = faultV (indG s.g).1 (indG s.g).2 ∧ Ext w w')) := by
 have hfp := hS.fp; have hfr := hS.fr; have hfn := hS.fn; unfold few at hfp hfr hfn
 refine calls_y (n := 59) Tryz.func87 ?_
 refine go ?_
 refine y_bx ?_
 intro w1 e1 z1 b1
 refine y_al ?_
 intro w2 e2 z2 b2
 refine go ?_
 refine y_ld (b1.ext e2) ?_
 refine go ?_
 refine xl_may (P := Tryz.prog) (some 12) (j := 3) (b := false) (((decide ((s.start : Int) < 0))) = false) (.bool (decide ((s.start : Int) < 0))) (.pointer (some ⟨w.heap.size, 2, none⟩)) rfl rfl rfl (may_b ((decide ((s.start : Int) < 0))) false) (fun hp => ox_fieldAddr (b := w.heap.size) (o := 0) tF_26_2.h rfl ⟨rfl, rfl⟩) ?_
 refine xl_may (P := Tryz.prog) (some 13) (j := 3) (b := false) (((decide ((s.start : Int) < 0))) = false) (.bool (decide ((s.start : Int) < 0))) (.int .i64 s.start) rfl rfl rfl (may_b ((decide ((s.start : Int) < 0))) false) (fun hp => ox_load (v := (.int .i64 s.start)) tA_3.h (if_pos (α := Value) (t := (.pointer (some ⟨w.heap.size, 2, none⟩))) (e := undef) hp) ((b1.ext e2).cell rfl) ⟨rfl, rfl⟩) ?_
 refine xl_may (P := Tryz.prog) (some 14) (j := 3) (b := false) (((decide ((s.start : Int) < 0))) = false) (.bool (decide ((s.start : Int) < 0))) (.pointer (some ⟨w.heap.size, 1, none⟩)) rfl rfl rfl (may_b ((decide ((s.start : Int) < 0))) false) (fun hp => ox_fieldAddr (b := w.heap.size) (o := 0) tF_26_1.h rfl ⟨rfl, rfl⟩) ?_
 refine xl_may (P := Tryz.prog) (some 15) (j := 3) (b := false) (((decide ((s.start : Int) < 0))) = false) (.bool (decide ((s.start : Int) < 0))) (.slice s.nA s.names.length s.nc) rfl rfl rfl (may_b ((decide ((s.start : Int) < 0))) false) (fun hp => ox_load (v := (.slice s.nA s.names.length s.nc)) tA_23.h (if_pos (α := Value) (t := (.pointer (some ⟨w.heap.size, 1, none⟩))) (e := undef) hp) ((b1.ext e2).cell rfl) ⟨rfl, rfl⟩) ?_
 refine xl_may (P := Tryz.prog) (some 16) (j := 3) (b := false) (((decide ((s.start : Int) < 0))) = false) (.bool (decide ((s.start : Int) < 0))) (.int .i64 (((s.names.length : Nat) : Int))) rfl rfl rfl (may_b ((decide ((s.start : Int) < 0))) false) (fun hp => ox_len (A := s.nA) (n := s.names.length) (cp := s.nc) rfl tU_23.h (if_pos (α := Value) (t := (.slice s.nA s.names.length s.nc)) (e := undef) hp) ⟨rfl, rfl⟩) ?_
 refine xl_may (P := Tryz.prog) (some 17) (j := 3) (b := false) (((decide ((s.start : Int) < 0))) = false) (.bool (decide ((s.start : Int) < 0))) (.bool (decide ((((s.names.length : Nat) : Int) : Int) ≤ s.start))) rfl rfl rfl (may_b ((decide ((s.start : Int) < 0))) false) (fun hp => ox_geq (k := .i64) (a := s.start) (b := (((s.names.length : Nat) : Int))) (if_pos (α := Value) (t := (.int .i64 s.start)) (e := undef) hp) (if_pos (α := Value) (t := (.int .i64 (((s.names.length : Nat) : Int)))) (e := undef) hp) ⟨rfl, rfl⟩) ?_
 refine yOp (ox_pick_or (a := ((decide ((s.start : Int) < 0)))) (b := ((decide ((((s.names.length : Nat) : Int) : Int) ≤ s.start)))) rfl rfl (fun ha => (if_pos (α := Value) (t := (.bool (decide ((((s.names.length : Nat) : Int) : Int) ≤ s.start)))) (e := undef) ha)) ?_)
 refine go ?_
 refine xc_cond (b := (((decide ((s.start : Int) < 0))) || ((decide ((((s.names.length : Nat) : Int) : Int) ≤ s.start))))) rfl (fun h1 => ?_) (fun h1 => ?_)
 ·
  have h1' := bS h1
  refine go ?_
  refine yOp (ox_mkStruct (ps := [(0, (.int .i64 70)), (1, (.int .i64 (-1)))]) (cs := #[(.int .i64 70), (.int .i64 (-1)), (.string (⟨#[]⟩))]) tZ_75.h tP_75.h rfl (by kernel_rfl) ?_)
  refine y_st b2 ?_
  intro w3 e3 z3 b3
  replace b3 : Blk w3 w1.heap.size #[(.int .i64 70), (.int .i64 (-1)), (.string (⟨#[]⟩))] 75 := blk_full b3 rfl
  refine go ?_
  change leaves _ _ _ _ _ _ _
  refine leaves_nil (n := 59) (rs := [.cell 2 75]) (vs := [(.agg #[(.int .i64 70), (.int .i64 (-1)), (.string (⟨#[]⟩))])]) rfl ⟨⟨by decide, w1.heap.size, 0, 3, [(.int .i64 70), (.int .i64 (-1)), (.string (⟨#[]⟩))], rfl, tA_75.h, tS_75.h, rfl, ⟨b3.cell rfl, b3.cell rfl, b3.cell rfl, trivial⟩, rfl⟩, trivial⟩ ?_
  have x1 : Ext w w3 := (Ext.chg1 (Ext.trans e1 e2) e3 (by omega))
  exact ⟨by rw [indG_start (by show s.start < 0 ∨ (s.names.length : Int) ≤ s.start; omega)] <;> rfl, x1⟩
 ·
  have h1' := bS h1
  have hst : 0 ≤ s.start ∧ s.start < (s.names.length : Int) := by omega
  refine go ?_
  refine y_ld (b1.ext e2) ?_
  refine go ?_
  refine xc_loopN (fun m_ f_ Wx => ∃ (i : Nat), m_ = s.prods.length - i ∧ (i ≤ s.prods.length) ∧ (indP s.g s.g.prods 0 = indP s.g (s.g.prods.drop i) i) ∧ f_ 1 = (.pointer (some ⟨w.heap.size, 0, none⟩)) ∧ f_ 2 = (.pointer (some ⟨w1.heap.size, 0, none⟩)) ∧ f_ 21 = (.slice s.pA s.prods.length s.pc) ∧ f_ 22 = (.int .i64 (((s.prods.length : Nat) : Int))) ∧ f_ 23 = (.int .i64 ((i : Nat))) ∧ Ext w2 Wx) (s.prods.length) ?_ ?_
  ·
   exact ⟨0, (by omega), (by omega), (by simp), rfl, rfl, rfl, rfl, vW, (Chg.refl _ _)⟩
  ·
   rintro m_ f1 w4 ⟨i, hm_f1, hi, hq, g1_f1, g2_f1, g21_f1, g22_f1, g23_f1, x2⟩
   have hx2 := x2.size
   rw [← usf g1_f1, ← usf g2_f1, ← usf g21_f1, ← usf g22_f1, ← usf g23_f1]
   refine go ?_
   refine y_if (fun h2 => ?_) (fun h2 => ?_)
   ·
    have x3 : Ext w w4 := (Ext.trans (Ext.trans e1 e2) x2)
    obtain ⟨x_1, g_1, o_1, hx_1⟩ := row_may (A := s.pA) (cs := PD.cs) i PD.len (by decide) (RowA.ext hS.prods x3)
    obtain ⟨hx_2, hA_1, hc_1⟩ := hx_1 oM
    have hfr_x_1 := (hS.fr _ (List.mem_of_getElem? hx_2)).le
    refine go ?_
    refine y_ix i hA_1 ?_
    refine y_lN (vs := [(.int .i64 x_1.left), (.slice x_1.rA x_1.right.length x_1.rc)]) hc_1 ?_
    refine y_al ?_
    intro w5 e4 z4 b4
    refine go ?_
    refine y_st b4 ?_
    intro w6 e5 z5 b5
    replace b5 : Blk w6 w4.heap.size #[(.int .i64 x_1.left), (.slice x_1.rA x_1.right.length x_1.rc)] 37 := blk_full b5 rfl
    refine go ?_
    refine y_ld b5 ?_
    refine go ?_
    refine xl_may (P := Tryz.prog) (some 32) (j := 3) (b := false) (((decide ((x_1.left : Int) < 0))) = false) (.bool (decide ((x_1.left : Int) < 0))) (.pointer (some ⟨w4.heap.size, 0, none⟩)) rfl rfl rfl (may_b ((decide ((x_1.left : Int) < 0))) false) (fun hp => ox_fieldAddr (b := w4.heap.size) (o := 0) tF_37_0.h rfl ⟨rfl, rfl⟩) ?_
    refine xl_may (P := Tryz.prog) (some 33) (j := 3) (b := false) (((decide ((x_1.left : Int) < 0))) = false) (.bool (decide ((x_1.left : Int) < 0))) (.int .i64 x_1.left) rfl rfl rfl (may_b ((decide ((x_1.left : Int) < 0))) false) (fun hp => ox_load (v := (.int .i64 x_1.left)) tA_3.h (if_pos (α := Value) (t := (.pointer (some ⟨w4.heap.size, 0, none⟩))) (e := undef) hp) (b5.cell rfl) ⟨rfl, rfl⟩) ?_
    refine xl_may (P := Tryz.prog) (some 34) (j := 3) (b := false) (((decide ((x_1.left : Int) < 0))) = false) (.bool (decide ((x_1.left : Int) < 0))) (.pointer (some ⟨w.heap.size, 1, none⟩)) rfl rfl rfl (may_b ((decide ((x_1.left : Int) < 0))) false) (fun hp => ox_fieldAddr (b := w.heap.size) (o := 0) tF_26_1.h rfl ⟨rfl, rfl⟩) ?_
    have q1 := ((((b1.ext e2).ext x2).ext e4).keep1 e5 ((((b1.ext e2).ext x2).ext e4).ne b4 (by decide)))
    refine xl_may (P := Tryz.prog) (some 35) (j := 3) (b := false) (((decide ((x_1.left : Int) < 0))) = false) (.bool (decide ((x_1.left : Int) < 0))) (.slice s.nA s.names.length s.nc) rfl rfl rfl (may_b ((decide ((x_1.left : Int) < 0))) false) (fun hp => ox_load (v := (.slice s.nA s.names.length s.nc)) tA_23.h (if_pos (α := Value) (t := (.pointer (some ⟨w.heap.size, 1, none⟩))) (e := undef) hp) (q1.cell rfl) ⟨rfl, rfl⟩) ?_
    refine xl_may (P := Tryz.prog) (some 36) (j := 3) (b := false) (((decide ((x_1.left : Int) < 0))) = false) (.bool (decide ((x_1.left : Int) < 0))) (.int .i64 (((s.names.length : Nat) : Int))) rfl rfl rfl (may_b ((decide ((x_1.left : Int) < 0))) false) (fun hp => ox_len (A := s.nA) (n := s.names.length) (cp := s.nc) rfl tU_23.h (if_pos (α := Value) (t := (.slice s.nA s.names.length s.nc)) (e := undef) hp) ⟨rfl, rfl⟩) ?_
    refine xl_may (P := Tryz.prog) (some 37) (j := 3) (b := false) (((decide ((x_1.left : Int) < 0))) = false) (.bool (decide ((x_1.left : Int) < 0))) (.bool (decide ((((s.names.length : Nat) : Int) : Int) ≤ x_1.left))) rfl rfl rfl (may_b ((decide ((x_1.left : Int) < 0))) false) (fun hp => ox_geq (k := .i64) (a := x_1.left) (b := (((s.names.length : Nat) : Int))) (if_pos (α := Value) (t := (.int .i64 x_1.left)) (e := undef) hp) (if_pos (α := Value) (t := (.int .i64 (((s.names.length : Nat) : Int)))) (e := undef) hp) ⟨rfl, rfl⟩) ?_
    refine yOp (ox_pick_or (a := ((decide ((x_1.left : Int) < 0)))) (b := ((decide ((((s.names.length : Nat) : Int) : Int) ≤ x_1.left)))) rfl rfl (fun ha => (if_pos (α := Value) (t := (.bool (decide ((((s.names.length : Nat) : Int) : Int) ≤ x_1.left)))) (e := undef) ha)) ?_)
    refine go ?_
    refine xc_cond (b := (((decide ((x_1.left : Int) < 0))) || ((decide ((((s.names.length : Nat) : Int) : Int) ≤ x_1.left))))) rfl (fun h3 => ?_) (fun h3 => ?_)
    ·
     have h3' := bS h3
     refine go ?_
     refine yOp (ox_mkStruct (ps := [(0, (.int .i64 70)), (1, (.int .i64 ((i : Nat))))]) (cs := #[(.int .i64 70), (.int .i64 ((i : Nat))), (.string (⟨#[]⟩))]) tZ_75.h tP_75.h rfl (by kernel_rfl) ?_)
     have q2 := (((b2.ext x2).ext e4).keep1 e5 (((b2.ext x2).ext e4).ne b4 (by decide)))
     refine y_st q2 ?_
     intro w7 e6 z6 b6
     replace b6 : Blk w7 w1.heap.size #[(.int .i64 70), (.int .i64 ((i : Nat))), (.string (⟨#[]⟩))] 75 := blk_full b6 rfl
     refine go ?_
     change leaves _ _ _ _ _ _ _
     refine leaves_nil (n := 59) (rs := [.cell 2 75]) (vs := [(.agg #[(.int .i64 70), (.int .i64 ((i : Nat))), (.string (⟨#[]⟩))])]) rfl ⟨⟨by decide, w1.heap.size, 0, 3, [(.int .i64 70), (.int .i64 ((i : Nat))), (.string (⟨#[]⟩))], rfl, tA_75.h, tS_75.h, rfl, ⟨b6.cell rfl, b6.cell rfl, b6.cell rfl, trivial⟩, rfl⟩, trivial⟩ ?_
     have x4 : Ext w w7 := (Ext.chg1 (Ext.chg1 (Ext.trans x3 e4) e5 (by omega)) e6 (by omega))
     exact ⟨by rw [indG_go hst, hq, SP.dp hx_2, indP_left (by show x_1.left < 0 ∨ (s.names.length : Int) ≤ x_1.left; omega)] <;> rfl, x4⟩
    ·
     have h3' := bS h3
     have hlf : 0 ≤ x_1.left ∧ x_1.left < (s.names.length : Int) := by omega
     refine go ?_
     refine y_ld b5 ?_
     refine go ?_
     refine xc_loopN (fun m_ f_ Wx => ∃ (k : Nat), m_ = x_1.right.length - k ∧ (k ≤ x_1.right.length) ∧ (rowE s.g x_1.right = rowE s.g (x_1.right.drop k)) ∧ f_ 1 = (.pointer (some ⟨w.heap.size, 0, none⟩)) ∧ f_ 2 = (.pointer (some ⟨w1.heap.size, 0, none⟩)) ∧ f_ 21 = (.slice s.pA s.prods.length s.pc) ∧ f_ 22 = (.int .i64 (((s.prods.length : Nat) : Int))) ∧ f_ 23 = (.int .i64 ((i : Nat))) ∧ f_ 24 = (.bool (decide (((i : Nat) : Int) < (((s.prods.length : Nat) : Int))))) ∧ f_ 25 = (.int .i64 ((i : Nat))) ∧ f_ 26 = (.pointer (some ⟨g_1, o_1 + i * 2, none⟩)) ∧ f_ 27 = (.agg #[(.int .i64 x_1.left), (.slice x_1.rA x_1.right.length x_1.rc)]) ∧ f_ 4 = (.pointer (some ⟨w4.heap.size, 0, none⟩)) ∧ f_ 3 = (.int .i64 ((i : Nat))) ∧ f_ 28 = (.pointer (some ⟨w4.heap.size, 0, none⟩)) ∧ f_ 29 = (.int .i64 x_1.left) ∧ f_ 30 = (.bool (decide ((x_1.left : Int) < 0))) ∧ f_ 31 = (.bool (decide ((x_1.left : Int) < 0))) ∧ f_ 32 = (if ((decide ((x_1.left : Int) < 0))) = false then (.pointer (some ⟨w4.heap.size, 0, none⟩)) else undef) ∧ f_ 33 = (if ((decide ((x_1.left : Int) < 0))) = false then (.int .i64 x_1.left) else undef) ∧ f_ 34 = (if ((decide ((x_1.left : Int) < 0))) = false then (.pointer (some ⟨w.heap.size, 1, none⟩)) else undef) ∧ f_ 35 = (if ((decide ((x_1.left : Int) < 0))) = false then (.slice s.nA s.names.length s.nc) else undef) ∧ f_ 36 = (if ((decide ((x_1.left : Int) < 0))) = false then (.int .i64 (((s.names.length : Nat) : Int))) else undef) ∧ f_ 37 = (if ((decide ((x_1.left : Int) < 0))) = false then (.bool (decide ((((s.names.length : Nat) : Int) : Int) ≤ x_1.left))) else undef) ∧ f_ 38 = (.bool (((decide ((x_1.left : Int) < 0))) || ((decide ((((s.names.length : Nat) : Int) : Int) ≤ x_1.left))))) ∧ f_ 41 = (.pointer (some ⟨w4.heap.size, 1, none⟩)) ∧ f_ 42 = (.slice x_1.rA x_1.right.length x_1.rc) ∧ f_ 43 = (.int .i64 (((x_1.right.length : Nat) : Int))) ∧ f_ 44 = (.int .i64 ((k : Nat))) ∧ Ext w6 Wx) (x_1.right.length) ?_ ?_
     ·
      exact ⟨0, (by omega), (by omega), (by simp), rfl, rfl, rfl, rfl, rfl, rfl, rfl, rfl, rfl, rfl, rfl, rfl, rfl, rfl, rfl, rfl, rfl, rfl, rfl, rfl, rfl, rfl, rfl, rfl, rfl, vW, (Chg.refl _ _)⟩
     ·
      rintro m_ f2 w8 ⟨k, hm_f2, hk, hk2, g1_f2, g2_f2, g21_f2, g22_f2, g23_f2, g24_f2, g25_f2, g26_f2, g27_f2, g4_f2, g3_f2, g28_f2, g29_f2, g30_f2, g31_f2, g32_f2, g33_f2, g34_f2, g35_f2, g36_f2, g37_f2, g38_f2, g41_f2, g42_f2, g43_f2, g44_f2, x5⟩
      have hx5 := x5.size
      rw [← usf g1_f2, ← usf g2_f2, ← usf g21_f2, ← usf g22_f2, ← usf g23_f2, ← usf g24_f2, ← usf g25_f2, ← usf g26_f2, ← usf g27_f2, ← usf g4_f2, ← usf g3_f2, ← usf g28_f2, ← usf g29_f2, ← usf g30_f2, ← usf g31_f2, ← usf g32_f2, ← usf g33_f2, ← usf g34_f2, ← usf g35_f2, ← usf g36_f2, ← usf g37_f2, ← usf g38_f2, ← usf g41_f2, ← usf g42_f2, ← usf g43_f2, ← usf g44_f2]
      refine go ?_
      refine y_if (fun h4 => ?_) (fun h4 => ?_)
      ·
       have x6 : Ext w w8 := (Ext.trans (Ext.chg1 (Ext.trans x3 e4) e5 (by omega)) x5)
       obtain ⟨x_2, g_2, o_2, hx_3⟩ := row_may (A := x_1.rA) (cs := Sym.cs) k Sym.len (by decide) (RowA.ext ((hS.right _ (List.mem_of_getElem? hx_2))) x6)
       obtain ⟨hx_4, hA_2, hc_2⟩ := hx_3 oM
       refine go ?_
       refine y_ix k hA_2 ?_
       refine y_lN (vs := [(.int .i64 x_2.kind), (.int .i64 x_2.n)]) hc_2 ?_
       refine y_al ?_
       intro w9 e7 z7 b7
       refine y_st b7 ?_
       intro w10 e8 z8 b8
       replace b8 : Blk w10 w8.heap.size #[(.int .i64 x_2.kind), (.int .i64 x_2.n)] 32 := blk_full b8 rfl
       have q3 := ((((b1.ext e2).ext x2).ext e4).keep1 e5 ((((b1.ext e2).ext x2).ext e4).ne b4 (by decide)))
       have q4 := (((q3.ext x5).ext e7).keep1 e8 (((q3.ext x5).ext e7).ne b7 (by decide)))
       refine go ?_
       refine y_lN (vs := [(.slice s.lA s.lex.length s.lc), (.slice s.nA s.names.length s.nc), (.int .i64 s.start), (.slice s.pA s.prods.length s.pc)]) ⟨q4.cell rfl, q4.cell rfl, q4.cell rfl, q4.cell rfl, trivial⟩ ?_
       refine y_lN (vs := [(.int .i64 x_2.kind), (.int .i64 x_2.n)]) ⟨b8.cell rfl, b8.cell rfl, trivial⟩ ?_
       have x7 : Ext w w10 := (Ext.chg1 (Ext.trans x6 e7) e8 (by omega))
       refine yCa (ret_mono (symbol_calls s x_2 w10 (hS.ext x7)) ?_)
       rintro _ w11 ⟨rfl, e9⟩
       have he9 := e9.size
       refine go ?_
       refine y_if (fun h5 => ?_) (fun h5 => ?_)
       ·
        refine go ?_
        refine yOp (ox_mkStruct (ps := [(0, (.int .i64 (symE s.g x_2))), (1, (.int .i64 ((i : Nat))))]) (cs := #[(.int .i64 (symE s.g x_2)), (.int .i64 ((i : Nat))), (.string (⟨#[]⟩))]) tZ_75.h tP_75.h rfl (by kernel_rfl) ?_)
        have q5 := (((b2.ext x2).ext e4).keep1 e5 (((b2.ext x2).ext e4).ne b4 (by decide)))
        have q6 := (((q5.ext x5).ext e7).keep1 e8 (((q5.ext x5).ext e7).ne b7 (by decide)))
        refine y_st (q6.ext e9) ?_
        intro w12 e10 z9 b9
        replace b9 : Blk w12 w1.heap.size #[(.int .i64 (symE s.g x_2)), (.int .i64 ((i : Nat))), (.string (⟨#[]⟩))] 75 := blk_full b9 rfl
        refine go ?_
        change leaves _ _ _ _ _ _ _
        refine leaves_nil (n := 59) (rs := [.cell 2 75]) (vs := [(.agg #[(.int .i64 (symE s.g x_2)), (.int .i64 ((i : Nat))), (.string (⟨#[]⟩))])]) rfl ⟨⟨by decide, w1.heap.size, 0, 3, [(.int .i64 (symE s.g x_2)), (.int .i64 ((i : Nat))), (.string (⟨#[]⟩))], rfl, tA_75.h, tS_75.h, rfl, ⟨b9.cell rfl, b9.cell rfl, b9.cell rfl, trivial⟩, rfl⟩, trivial⟩ ?_
        have x8 : Ext w w12 := (Ext.chg1 (Ext.trans x7 e9) e10 (by omega))
        exact ⟨by rw [indG_go hst, hq, SP.dp hx_2, indP_sym (show 0 ≤ x_1.left ∧ x_1.left < (s.names.length : Int) from hlf) (hk2.trans (rowE_hit hx_4 h5)) h5] <;> rfl, x8⟩
       ·
        refine go ?_
        refine y_add ?_
        have x9 : Ext w6 w11 := (Ext.trans (Ext.chg1 (Ext.trans x5 e7) e8 (by omega)) e9)
        refine go ?_
        exact ⟨rfl, x_1.right.length - (k + 1), by omega, k + 1, by omega, (by omega), (hk2.trans (rowE_next hx_4 (by simpa using h5))), rfl, rfl, rfl, rfl, rfl, rfl, rfl, rfl, rfl, rfl, rfl, rfl, rfl, rfl, rfl, rfl, rfl, rfl, rfl, rfl, rfl, rfl, rfl, rfl, rfl, vW, x9⟩
      ·
       refine go ?_
       refine y_add ?_
       have x10 : Ext w2 w8 := (Ext.trans (Ext.chg1 (Ext.trans x2 e4) e5 (by omega)) x5)
       refine go ?_
       exact ⟨rfl, s.prods.length - (i + 1), by omega, i + 1, by omega, (by omega), (by rw [hq]; exact (congrArg (fun z => indP s.g z i) (SP.dp hx_2)).trans (indP_next (show 0 ≤ x_1.left ∧ x_1.left < (s.names.length : Int) from hlf) (hk2.trans (by rw [List.drop_of_length_le (by omega)] <;> rfl)))), rfl, rfl, rfl, rfl, vW, x10⟩
   ·
    refine go ?_
    refine yOp (ox_mkStruct (ps := []) (cs := #[(.int .i64 0), (.int .i64 0), (.string (⟨#[]⟩))]) tZ_75.h tP_75.h rfl (by kernel_rfl) ?_)
    refine y_st (b2.ext x2) ?_
    intro w13 e11 z10 b10
    replace b10 : Blk w13 w1.heap.size #[(.int .i64 0), (.int .i64 0), (.string (⟨#[]⟩))] 75 := blk_full b10 rfl
    refine go ?_
    change leaves _ _ _ _ _ _ _
    refine leaves_nil (n := 59) (rs := [.cell 2 75]) (vs := [(.agg #[(.int .i64 0), (.int .i64 0), (.string (⟨#[]⟩))])]) rfl ⟨⟨by decide, w1.heap.size, 0, 3, [(.int .i64 0), (.int .i64 0), (.string (⟨#[]⟩))], rfl, tA_75.h, tS_75.h, rfl, ⟨b10.cell rfl, b10.cell rfl, b10.cell rfl, trivial⟩, rfl⟩, trivial⟩ ?_
    have x11 : Ext w w13 := (Ext.chg1 (Ext.trans (Ext.trans e1 e2) x2) e11 (by omega))
    exact ⟨by rw [indG_go hst, hq, List.drop_of_length_le (by rw [s.gprods]; omega)] <;> rfl, x11⟩
theorem fixedB (n c : Nat) (A : Option Addr) (h0 : List Bool) (f : List Bool → List Bool × Bool) (μ : List Bool → Nat) (Inv : List Bool → Prop) (G : Nat) (CB : List Value) (w : World) (hO : Vx.Own w 4 1 (.slice A n c) n (h0.flatMap bools)) (hp : plainF Tryz.prog G = true) (hI0 : Inv h0) (hm : ∀ h, Inv h → (f h).2 = true → Inv (f h).1 ∧ μ (f h).1 < μ h) (hf : ∀ (h : List Bool) (W : World), Inv h → Vx.Own W 4 1 (.slice A n c) n (h.flatMap bools) → Chg (fun b => (Value.slice A n c).ownBlock = some b) w W → Calls Tryz.prog G ([Value.slice A n c] ++ CB).toArray W (Ret fun v W' => v = .tuple #[.slice A n c, .bool (f h).2] ∧ Vx.Own W' 4 1 (.slice A n c) n (((f h).1).flatMap bools) ∧ Chg (fun b => (Value.slice A n c).ownBlock = some b) W W')) :
    Calls Tryz.prog 120 #[(.slice A n c), (.func (.func G) #[] CB.toArray)] w (Ret (fun v w' => v = .slice A n c ∧ Vx.Own w' 4 1 (.slice A n c) n ((fixN f (μ h0 + 1) h0).flatMap bools) ∧ Chg (fun b => (Value.slice A n c).ownBlock = some b) w w')) := by
 refine calls_y (n := 17) Tryz.func120 ?_
 refine go ?_
 refine xc_loopN (fun m_ f_ Wx => ∃ (h : List Bool), m_ = μ h ∧ (Inv h) ∧ (fixN f (μ h0 + 1) h0 = fixN f (μ h + 1) h) ∧ f_ 1 = (.func (.func G) #[] CB.toArray) ∧ f_ 0 = (.slice A n c) ∧ Vx.Own Wx 4 1 (.slice A n c) n (h.flatMap bools) ∧ Chg (fun b => ((.slice A n c) : Value).ownBlock = some b) w Wx) (μ h0) ?_ ?_
 ·
  exact ⟨h0, (by omega), hI0, rfl, rfl, rfl, hO, (Chg.refl _ _)⟩
 ·
  rintro m_ f1 w1 ⟨h, hm_f1, hI, hq, g1_f1, g0_f1, o0_f1, x1⟩
  have hx1 := x1.size
  have hl_h : h.length = n := by have _q := (o0_f1).len; rw [fm_len bools_len] at _q; omega
  rw [← usf g1_f1, ← usf g0_f1]
  have y1 : Chg (fun b => ((.slice A n c) : Value).ownBlock = some b) w w1 := (Chg.trans (Chg.refl (fun b => ((.slice A n c) : Value).ownBlock = some b) w) x1 (fun b hb hl => hb))
  refine go ?_
  refine yOp (ox_callV (cap := CB) (al := [(.slice A n c)]) hp rfl rfl (ret_mono (hf h w1 hI o0_f1 y1) ?_))
  rintro _ w2 ⟨rfl, o1, e1⟩
  have he1 := e1.size
  refine go ?_
  refine xc_cond (b := (!((f h).2))) rfl (fun h1 => ?_) (fun h1 => ?_)
  ·
   have h1' := bS h1
   refine go ?_
   refine y_r1 ?_
   have y2 : Chg (fun b => ((.slice A n c) : Value).ownBlock = some b) w w2 := (Chg.trans (Chg.trans (Chg.refl (fun b => ((.slice A n c) : Value).ownBlock = some b) w) x1 (fun b hb hl => hb)) e1 (fun b hb hl => hb))
   exact ⟨rfl, by rw [hq, fixN_done h1']; exact o1, y2⟩
  ·
   have h1' := bS h1
   have y3 : Chg (fun b => ((.slice A n c) : Value).ownBlock = some b) w w2 := (Chg.trans (Chg.trans (Chg.refl (fun b => ((.slice A n c) : Value).ownBlock = some b) w) x1 (fun b hb hl => hb)) e1 (fun b hb hl => hb))
   refine go ?_
   exact ⟨rfl, μ (f h).1, by (rw [hm_f1]; exact (hm h hI h1').2), (f h).1, by rfl, (hm h hI h1').1, (hq.trans (fixN_step hm hI h1')), rfl, rfl, o1, y3⟩
theorem fixedI (n c : Nat) (A : Option Addr) (h0 : List Int) (f : List Int → List Int × Bool) (μ : List Int → Nat) (Inv : List Int → Prop) (G : Nat) (CB : List Value) (w : World) (hO : Vx.Own w 3 1 (.slice A n c) n (h0.flatMap ints)) (hp : plainF Tryz.prog G = true) (hI0 : Inv h0) (hm : ∀ h, Inv h → (f h).2 = true → Inv (f h).1 ∧ μ (f h).1 < μ h) (hf : ∀ (h : List Int) (W : World), Inv h → Vx.Own W 3 1 (.slice A n c) n (h.flatMap ints) → Chg (fun b => (Value.slice A n c).ownBlock = some b) w W → Calls Tryz.prog G ([Value.slice A n c] ++ CB).toArray W (Ret fun v W' => v = .tuple #[.slice A n c, .bool (f h).2] ∧ Vx.Own W' 3 1 (.slice A n c) n (((f h).1).flatMap ints) ∧ Chg (fun b => (Value.slice A n c).ownBlock = some b) W W')) :
    Calls Tryz.prog 124 #[(.slice A n c), (.func (.func G) #[] CB.toArray)] w (Ret (fun v w' => v = .slice A n c ∧ Vx.Own w' 3 1 (.slice A n c) n ((fixN f (μ h0 + 1) h0).flatMap ints) ∧ Chg (fun b => (Value.slice A n c).ownBlock = some b) w w')) := by
 refine calls_y (n := 17) Tryz.func124 ?_
 refine go ?_
 refine xc_loopN (fun m_ f_ Wx => ∃ (h : List Int), m_ = μ h ∧ (Inv h) ∧ (fixN f (μ h0 + 1) h0 = fixN f (μ h + 1) h) ∧ f_ 1 = (.func (.func G) #[] CB.toArray) ∧ f_ 0 = (.slice A n c) ∧ Vx.Own Wx 3 1 (.slice A n c) n (h.flatMap ints) ∧ Chg (fun b => ((.slice A n c) : Value).ownBlock = some b) w Wx) (μ h0) ?_ ?_
 ·
  exact ⟨h0, (by omega), hI0, rfl, rfl, rfl, hO, (Chg.refl _ _)⟩
 ·
  rintro m_ f1 w1 ⟨h, hm_f1, hI, hq, g1_f1, g0_f1, o0_f1, x1⟩
  have hx1 := x1.size
  have hl_h : h.length = n := by have _q := (o0_f1).len; rw [fm_len ints_len] at _q; omega
  rw [← usf g1_f1, ← usf g0_f1]
  have y1 : Chg (fun b => ((.slice A n c) : Value).ownBlock = some b) w w1 := (Chg.trans (Chg.refl (fun b => ((.slice A n c) : Value).ownBlock = some b) w) x1 (fun b hb hl => hb))
  refine go ?_
  refine yOp (ox_callV (cap := CB) (al := [(.slice A n c)]) hp rfl rfl (ret_mono (hf h w1 hI o0_f1 y1) ?_))
  rintro _ w2 ⟨rfl, o1, e1⟩
  have he1 := e1.size
  refine go ?_
  refine xc_cond (b := (!((f h).2))) rfl (fun h1 => ?_) (fun h1 => ?_)
  ·
   have h1' := bS h1
   refine go ?_
   refine y_r1 ?_
   have y2 : Chg (fun b => ((.slice A n c) : Value).ownBlock = some b) w w2 := (Chg.trans (Chg.trans (Chg.refl (fun b => ((.slice A n c) : Value).ownBlock = some b) w) x1 (fun b hb hl => hb)) e1 (fun b hb hl => hb))
   exact ⟨rfl, by rw [hq, fixN_done h1']; exact o1, y2⟩
  ·
   have h1' := bS h1
   have y3 : Chg (fun b => ((.slice A n c) : Value).ownBlock = some b) w w2 := (Chg.trans (Chg.trans (Chg.refl (fun b => ((.slice A n c) : Value).ownBlock = some b) w) x1 (fun b hb hl => hb)) e1 (fun b hb hl => hb))
   refine go ?_
   exact ⟨rfl, μ (f h).1, by (rw [hm_f1]; exact (hm h hI h1').2), (f h).1, by rfl, (hm h hI h1').1, (hq.trans (fixN_step hm hI h1')), rfl, rfl, o1, y3⟩
def okS (good : Sym → Bool) (h : List Bool) (x : Sym) : Bool := if x.kind = 3 then h[x.n.toNat]! else good x
def stepB (good : Sym → Bool) : List P2 → List Bool → Bool → List Bool × Bool
  | [], h, g => (h, g)
  | p :: r, h, g => if h[p.1.toNat]! = false ∧ p.2.any (fun x => !okS good h x) = false then stepB good r (h.set p.1.toNat true) true else stepB good r h g
theorem stepB_yes {good : Sym → Bool} {p : P2} {r : List P2} {h : List Bool} {g : Bool} (h1 : h[p.1.toNat]! = false) (h2 : p.2.any (fun x => !okS good h x) = false) : stepB good (p :: r) h g = stepB good r (h.set p.1.toNat true) true := by rw [stepB, if_pos ⟨h1, h2⟩]
theorem stepB_no1 {good : Sym → Bool} {p : P2} {r : List P2} {h : List Bool} {g : Bool} (h1 : h[p.1.toNat]! ≠ false) : stepB good (p :: r) h g = stepB good r h g := by rw [stepB, if_neg (fun q => h1 q.1)]
theorem stepB_no2 {good : Sym → Bool} {p : P2} {r : List P2} {h : List Bool} {g : Bool} (h2 : p.2.any (fun x => !okS good h x) ≠ false) : stepB good (p :: r) h g = stepB good r h g := by rw [stepB, if_neg (fun q => h2 q.2)]
def GoodG (g : GD) : Prop := (0 ≤ g.start ∧ g.start < (g.names : Int)) ∧ ∀ p ∈ g.prods, 0 ≤ p.1 ∧ p.1 < (g.names : Int) ∧ ∀ x ∈ p.2, symE g x = 0
theorem symE_name {g : GD} {x : Sym} (h : symE g x = 0) (hk : x.kind = 3) : 0 ≤ x.n ∧ x.n < (g.names : Int) := by
  unfold symE at h
  rw [if_neg (by omega), if_neg (by omega), if_pos hk] at h
  split at h
  · assumption
  · omega
theorem symE_term {g : GD} {x : Sym} (h : symE g x = 0) (hk : x.kind = 1) : (0 ≤ x.n ∧ x.n < (g.triv.length : Int)) ∧ g.triv[x.n.toNat]! = false := by
  unfold symE at h
  rw [if_pos hk] at h
  split at h
  · rename_i h1
    split at h
    · omega
    · rename_i h2; exact ⟨h1, by simpa using h2⟩
  · omega
theorem symE_kind {g : GD} {x : Sym} (h : symE g x = 0) : x.kind = 1 ∨ x.kind = 3 ∨ (x.kind = 2 ∧ x.n = 0) := by
  unfold symE at h
  by_cases h1 : x.kind = 1
  · exact .inl h1
  · rw [if_neg h1] at h
    by_cases h2 : x.kind = 2
    · rw [if_pos h2] at h
      split at h
      · exact .inr (.inr ⟨h2, by assumption⟩)
      · omega
    · rw [if_neg h2] at h
      by_cases h3 : x.kind = 3
      · exact .inr (.inl h3)
      · rw [if_neg h3] at h; omega
theorem rowE_zero {g : GD} : ∀ {l : List Sym}, rowE g l = 0 → ∀ x ∈ l, symE g x = 0
  | [], _, _, hx => by cases hx
  | y :: r, h, x, hx => by
    simp only [rowE] at h
    split at h
    · rename_i h0
      rcases List.mem_cons.1 hx with rfl | hx
      · exact h0
      · exact rowE_zero h x hx
    · rename_i h0; exact absurd h h0
theorem indP_zero {g : GD} : ∀ {l : List P2} {i : Nat}, (indP g l i).1 = 0 → ∀ p ∈ l, 0 ≤ p.1 ∧ p.1 < (g.names : Int) ∧ ∀ x ∈ p.2, symE g x = 0
  | [], _, _, _, hx => by cases hx
  | y :: r, i, h, x, hx => by
    simp only [indP] at h
    split at h
    · simp at h
    · rename_i h1
      split at h
      · rename_i h2
        rcases List.mem_cons.1 hx with rfl | hx
        · exact ⟨by omega, by omega, rowE_zero h2⟩
        · exact indP_zero h x hx
      · rename_i h2; exact absurd h h2
theorem good_of {g : GD} (h : (indG g).1 = 0) : GoodG g := by
  unfold indG at h
  split at h
  · simp at h
  · exact ⟨by omega, indP_zero h⟩
instance pf_122 : PlF Tryz.prog 122 := ⟨by kernel_rfl⟩
instance pf_123 : PlF Tryz.prog 123 := ⟨by kernel_rfl⟩
instance tA_144 : AggF Tryz.prog 144 := ⟨by kernel_rfl⟩
instance tA_146 : AggF Tryz.prog 146 := ⟨by kernel_rfl⟩
instance tS_4 : SzT Tryz.prog 4 1 := ⟨by kernel_rfl⟩
theorem made11_calls (x : Sym) (bh bg n c : Nat) (A : Option Addr) (h : List Bool) (good : Sym → Bool) (G : Nat) (CB : List Value) (w : World) (hbh : Blk w bh #[.slice A n c] 144) (hbg : Blk w bg #[.func (.func G) #[] CB.toArray] 146) (hA : RowA w A (h.flatMap bools)) (hl : h.length = n) (hx : x.kind = 3 → 0 ≤ x.n ∧ x.n < (n : Int)) (hp : plainF Tryz.prog G = true) (hg : ∀ x W, Calls Tryz.prog G ([Value.agg (Sym.cs x).toArray] ++ CB).toArray W (Ret fun v W' => v = .bool (good x) ∧ Ext W W')) :
    Calls Tryz.prog 122 #[(.agg #[(.int .i64 x.kind), (.int .i64 x.n)]), (.pointer (some ⟨bh, 0, none⟩)), (.pointer (some ⟨bg, 0, none⟩))] w (Ret (fun v w' => v = .bool (!okS good h x) ∧ Ext w w')) := by
 refine calls_y (n := 27) Tryz.func122 ?_
 refine go ?_
 refine y_bx ?_
 intro w1 e1 z1 b1
 refine go ?_
 refine y_ld b1 ?_
 refine go ?_
 by_cases h1 : (x.kind : Int) = 3
 ·
  have hxr := hx (by omega)
  refine ysL (s := 8) (bT (decide_eq_true h1)) ?_
  refine y_ld (hbh.ext e1) ?_
  refine go ?_
  refine y_ld b1 ?_
  obtain ⟨x_1, g_1, o_1, hx_1⟩ := row_may (A := A) (cs := bools) x.n.toNat bools_len (by decide) (RowA.ext hA e1)
  obtain ⟨hx_2, hA_1, hc_1⟩ := hx_1 oM
  refine y_ix x.n.toNat hA_1 ?_
  refine y_lc (CellsL.at1 hc_1 0 rfl) ?_
  refine go ?_
  by_cases h2 : (!x_1) = true
  ·
   have hb1 : h[x.n.toNat]! = x_1 := bang_of hx_2
   refine ysL (s := 16) (bT h2) ?_
   refine go ?_
   refine y_r1 ?_
   exact ⟨congrArg Value.bool (by unfold okS; first | (simp_all; done) | (rw [if_pos (by omega)]; simp_all) | (rw [if_neg (by omega)]; simp_all)), e1⟩
  ·
   have hb1 : h[x.n.toNat]! = x_1 := bang_of hx_2
   refine ysL (s := 16) (bF (Bool.eq_false_iff.2 h2)) ?_
   refine go ?_
   refine y_ld b1 ?_
   refine go ?_
   by_cases h3 : (x.kind : Int) ≠ 3
   ·
    refine ysL (s := 20) (bT (decide_eq_true h3)) ?_
    refine y_ld (hbg.ext e1) ?_
    refine y_lN (vs := [(.int .i64 x.kind), (.int .i64 x.n)]) ⟨b1.cell rfl, b1.cell rfl, trivial⟩ ?_
    refine yOp (ox_callV (cap := CB) (al := [(.agg #[(.int .i64 x.kind), (.int .i64 x.n)])]) hp rfl rfl (ret_mono (hg x w1) ?_))
    rintro _ w2 ⟨rfl, e2⟩
    have he2 := e2.size
    refine go ?_
    refine y_r1 ?_
    have x1 : Ext w w2 := (Ext.trans e1 e2)
    exact ⟨congrArg Value.bool (by unfold okS; first | (simp_all; done) | (rw [if_pos (by omega)]; simp_all) | (rw [if_neg (by omega)]; simp_all)), x1⟩
   ·
    refine ysL (s := 20) (bF (decide_eq_false h3)) ?_
    refine go ?_
    refine y_r1 ?_
    exact ⟨congrArg Value.bool (by unfold okS; first | (simp_all; done) | (rw [if_pos (by omega)]; simp_all) | (rw [if_neg (by omega)]; simp_all)), e1⟩
 ·
  refine ysL (s := 8) (bF (decide_eq_false h1)) ?_
  refine go ?_
  refine y_ld b1 ?_
  refine go ?_
  by_cases h4 : (x.kind : Int) ≠ 3
  ·
   refine ysL (s := 20) (bT (decide_eq_true h4)) ?_
   refine y_ld (hbg.ext e1) ?_
   refine y_lN (vs := [(.int .i64 x.kind), (.int .i64 x.n)]) ⟨b1.cell rfl, b1.cell rfl, trivial⟩ ?_
   refine yOp (ox_callV (cap := CB) (al := [(.agg #[(.int .i64 x.kind), (.int .i64 x.n)])]) hp rfl rfl (ret_mono (hg x w1) ?_))
   rintro _ w3 ⟨rfl, e3⟩
   have he3 := e3.size
   refine go ?_
   refine y_r1 ?_
   have x2 : Ext w w3 := (Ext.trans e1 e3)
   exact ⟨congrArg Value.bool (by unfold okS; first | (simp_all; done) | (rw [if_pos (by omega)]; simp_all) | (rw [if_neg (by omega)]; simp_all)), x2⟩
  ·
   refine ysL (s := 20) (bF (decide_eq_false h4)) ?_
   refine go ?_
   refine y_r1 ?_
   exact ⟨congrArg Value.bool (by unfold okS; first | (simp_all; done) | (rw [if_pos (by omega)]; simp_all) | (rw [if_neg (by omega)]; simp_all)), e1⟩
theorem made1_calls (s : SP) (bs bg n c : Nat) (A : Option Addr) (h0 : List Bool) (good : Sym → Bool) (G : Nat) (CB : List Value) (w0 : World) (w : World) (hbs : Blk w bs #[(.slice s.lA s.lex.length s.lc), (.slice s.nA s.names.length s.nc), (.int .i64 s.start), (.slice s.pA s.prods.length s.pc)] 26) (hbg : Blk w bg #[.func (.func G) #[] CB.toArray] 146) (hE0 : Ext w0 w) (hlow : ∀ k, (Value.slice A n c).ownBlock = some k → w0.heap.size ≤ k) (hS : SpR w0 s) (hG : GoodG s.g) (hn : n = s.names.length) (hO : Vx.Own w 4 1 (.slice A n c) n (h0.flatMap bools)) (hp : plainF Tryz.prog G = true) (hg : ∀ x W, Calls Tryz.prog G ([Value.agg (Sym.cs x).toArray] ++ CB).toArray W (Ret fun v W' => v = .bool (good x) ∧ Ext W W')) :
    Calls Tryz.prog 121 #[(.slice A n c), (.pointer (some ⟨bs, 0, none⟩)), (.pointer (some ⟨bg, 0, none⟩))] w (Ret (fun v w' => v = .tuple #[.slice A n c, .bool (stepB good s.g.prods h0 false).2] ∧ Vx.Own w' 4 1 (.slice A n c) n (((stepB good s.g.prods h0 false).1).flatMap bools) ∧ Chg (fun b => (Value.slice A n c).ownBlock = some b) w w')) := by
 have hfp := hS.fp.le
 have hsz0_ := hE0.size
 refine calls_y (n := 38) Tryz.func121 ?_
 refine go ?_
 refine y_bx ?_
 intro w1 e1 z1 b1
 refine go ?_
 refine y_ld (hbs.ext e1) ?_
 refine go ?_
 refine xc_loopN (fun m_ f_ Wx => ∃ (i : Nat) (g : Bool) (h : List Bool), m_ = s.prods.length - i ∧ (i ≤ s.prods.length) ∧ (stepB good s.g.prods h0 false = stepB good (s.g.prods.drop i) h g) ∧ f_ 2 = (.pointer (some ⟨bg, 0, none⟩)) ∧ f_ 3 = (.pointer (some ⟨w.heap.size, 0, none⟩)) ∧ f_ 4 = (.slice none 0 0) ∧ f_ 5 = (.bool false) ∧ f_ 11 = (.slice s.pA s.prods.length s.pc) ∧ f_ 12 = (.int .i64 (((s.prods.length : Nat) : Int))) ∧ f_ 13 = (.int .i64 ((i : Nat))) ∧ f_ 6 = (.bool g) ∧ Vx.Own Wx 4 1 (.slice A n c) n (h.flatMap bools) ∧ Chg (fun b => ((.slice A n c) : Value).ownBlock = some b) w1 Wx) (s.prods.length) ?_ ?_
 ·
  exact ⟨0, false, h0, (by omega), (by omega), rfl, rfl, rfl, rfl, rfl, rfl, rfl, vW, rfl, (hO.ext e1), (Chg.refl _ _)⟩
 ·
  rintro m_ f1 w2 ⟨i, g, h, hm_f1, hi, hq, g2_f1, g3_f1, g4_f1, g5_f1, g11_f1, g12_f1, g13_f1, g6_f1, o0_f1, x1⟩
  have hx1 := x1.size
  have hl_h : h.length = n := by have _q := (o0_f1).len; rw [fm_len bools_len] at _q; omega
  rw [← usf g2_f1, ← usf g3_f1, ← usf g4_f1, ← usf g5_f1, ← usf g11_f1, ← usf g12_f1, ← usf g13_f1, ← usf g6_f1]
  refine go ?_
  refine y_if (fun h1 => ?_) (fun h1 => ?_)
  ·
   have x2 : Ext w0 w2 := (Chg.trans (Ext.trans hE0 e1) x1 (fun b hb hl => (absurd hl (by have _h := hlow b hb; omega))))
   obtain ⟨x_1, g_1, o_1, hx_1⟩ := row_may (A := s.pA) (cs := PD.cs) i PD.len (by decide) (RowA.ext hS.prods x2)
   obtain ⟨hx_2, hA_1, hc_1⟩ := hx_1 oM
   have hfr_x_1 := (hS.fr _ (List.mem_of_getElem? hx_2)).le
   have hgd_x_1 := hG.2 _ (List.mem_of_getElem? (map_get (f := PD.d) hx_2))
   have hgl_x_1 : 0 ≤ x_1.left ∧ x_1.left < (s.names.length : Int) := ⟨hgd_x_1.1, hgd_x_1.2.1⟩
   refine go ?_
   refine y_ix i hA_1 ?_
   refine y_lN (vs := [(.int .i64 x_1.left), (.slice x_1.rA x_1.right.length x_1.rc)]) hc_1 ?_
   refine y_al ?_
   intro w3 e2 z2 b2
   refine y_st b2 ?_
   intro w4 e3 z3 b3
   replace b3 : Blk w4 w2.heap.size #[(.int .i64 x_1.left), (.slice x_1.rA x_1.right.length x_1.rc)] 37 := blk_full b3 rfl
   refine go ?_
   refine yOp (ox_mkFunc (cs := [(.pointer (some ⟨w.heap.size, 0, none⟩)), (.pointer (some ⟨bg, 0, none⟩))]) rfl ?_)
   have q1 := (b1.keep x1 (fun _h => (hO.ext e1).ne_blk b1 (by decide) _ _h rfl))
   have q2 := ((q1.ext e2).keep1 e3 ((q1.ext e2).ne b2 (by decide)))
   refine go ?_
   refine y_ld q2 ?_
   refine go ?_
   refine y_ld b3 ?_
   have q3 := ((o0_f1.ext e2).keep1 e3 (fun k hk => (o0_f1.ext e2).ne_blk b2 (by decide) k hk))
   obtain ⟨x_2, g_2, hx_3⟩ := own_may (A := A) x_1.left.toNat bools_len (by decide) q3
   obtain ⟨hx_4, hA_2, hc_2⟩ := hx_3 oM
   refine y_ix x_1.left.toNat hA_2 ?_
   refine y_lc (CellsL.at1 hc_2 0 rfl) ?_
   refine go ?_
   by_cases h2 : (!x_2) = true
   ·
    have hy_ : x_2 = false := by cases x_2 <;> simp_all
    refine ysL (s := 24) (bT h2) ?_
    refine go ?_
    refine y_ld b3 ?_
    have x3 : Ext w0 w4 := (Ext.chg1 (Ext.trans x2 e2) e3 (by omega))
    have q4 := ((hbg.ext e1).keep x1 (fun _h => (hO.ext e1).ne_blk (hbg.ext e1) (by decide) _ _h rfl))
    have q5 := ((q4.ext e2).keep1 e3 ((q4.ext e2).ne b2 (by decide)))
    refine go ?_
    refine yCa (ret_mono (containsFSym x_1.right x_1.rA x_1.rc (fun x => !okS good h x) 122 [.pointer (some ⟨w.heap.size, 0, none⟩), .pointer (some ⟨bg, 0, none⟩)] w4 (RowA.ext ((hS.right _ (List.mem_of_getElem? hx_2))) x3) (by omega) pf_122.h (fun x hx W hW => made11_calls x w.heap.size bg n c A h good G CB W (q2.ext hW) (q5.ext hW) ((Own.rowO q3).ext hW) (by omega) (fun hk => by have _q := symE_name (hgd_x_1.2.2 x hx) hk; rw [hn]; exact _q) hp hg)) ?_)
    rintro _ w5 ⟨rfl, e4⟩
    have he4 := e4.size
    refine go ?_
    refine xc_cond (b := (!(x_1.right.any (fun x => !okS good h x)))) rfl (fun h3 => ?_) (fun h3 => ?_)
    ·
     have h3' := bS h3
     have ha_ : x_1.right.any (fun x => !okS good h x) = false := by simpa using h3
     refine go ?_
     refine y_ld (q2.ext e4) ?_
     refine go ?_
     refine y_ld (b3.ext e4) ?_
     refine y_ix x_1.left.toNat hA_2 ?_
     refine yNp (ox_stE (i := x_1.left.toNat) (off := 0) (vs := [(.bool true)]) (b := (true : Bool)) bools_len tS_4.h hA_2 rfl (v := (.bool true)) rfl rfl rfl rfl (q3.ext e4) hx_4 rfl (by decide) (by omega) ?_)
     intro w6 e5 z4 o1
     refine go ?_
     refine y_add ?_
     have y1 : Chg (fun b => ((.slice A n c) : Value).ownBlock = some b) w1 w6 := (Chg.trans (Chg.ext (Chg.chg1 (Chg.ext (Chg.trans (Chg.refl (fun b => ((.slice A n c) : Value).ownBlock = some b) w1) x1 (fun b hb hl => hb)) e2) e3 (.inr (by omega))) e4) e5 (fun b hb hl => hb))
     refine go ?_
     exact ⟨rfl, s.prods.length - (i + 1), by omega, i + 1, true, (h.set x_1.left.toNat true), by omega, (by omega), (hq.trans ((congrArg (fun z => stepB good z h g) (SP.dp hx_2)).trans (stepB_yes (p := x_1.d) (by show h[x_1.left.toNat]! = false; rw [bang_of hx_4, hy_]) (by show x_1.right.any (fun x => !okS good h x) = false; rw [ha_])))), rfl, rfl, rfl, rfl, rfl, rfl, vW, rfl, o1, y1⟩
    ·
     have h3' := bS h3
     have ha_ : x_1.right.any (fun x => !okS good h x) = true := by simpa using h3
     refine go ?_
     refine y_add ?_
     have y2 : Chg (fun b => ((.slice A n c) : Value).ownBlock = some b) w1 w5 := (Chg.ext (Chg.chg1 (Chg.ext (Chg.trans (Chg.refl (fun b => ((.slice A n c) : Value).ownBlock = some b) w1) x1 (fun b hb hl => hb)) e2) e3 (.inr (by omega))) e4)
     refine go ?_
     exact ⟨rfl, s.prods.length - (i + 1), by omega, i + 1, g, h, by omega, (by omega), (hq.trans ((congrArg (fun z => stepB good z h g) (SP.dp hx_2)).trans (stepB_no2 (p := x_1.d) (by show x_1.right.any (fun x => !okS good h x) ≠ false; rw [ha_]; decide)))), rfl, rfl, rfl, rfl, rfl, rfl, vW, rfl, (q3.ext e4), y2⟩
   ·
    have hy_ : x_2 = true := by cases x_2 <;> simp_all
    refine ysL (s := 24) (bF (Bool.eq_false_iff.2 h2)) ?_
    refine go ?_
    refine y_add ?_
    have y3 : Chg (fun b => ((.slice A n c) : Value).ownBlock = some b) w1 w4 := (Chg.chg1 (Chg.ext (Chg.trans (Chg.refl (fun b => ((.slice A n c) : Value).ownBlock = some b) w1) x1 (fun b hb hl => hb)) e2) e3 (.inr (by omega)))
    refine go ?_
    exact ⟨rfl, s.prods.length - (i + 1), by omega, i + 1, g, h, by omega, (by omega), (hq.trans ((congrArg (fun z => stepB good z h g) (SP.dp hx_2)).trans (stepB_no1 (p := x_1.d) (by show h[x_1.left.toNat]! ≠ false; rw [bang_of hx_4, hy_]; decide)))), rfl, rfl, rfl, rfl, rfl, rfl, vW, rfl, q3, y3⟩
  ·
   have q6 := (b1.keep x1 (fun _h => (hO.ext e1).ne_blk b1 (by decide) _ _h rfl))
   refine go ?_
   refine y_ld q6 ?_
   refine go ?_
   refine y_r2 ?_
   have y4 : Chg (fun b => ((.slice A n c) : Value).ownBlock = some b) w w2 := (Chg.trans (Chg.ext (Chg.refl (fun b => ((.slice A n c) : Value).ownBlock = some b) w) e1) x1 (fun b hb hl => hb))
   exact ⟨by rw [hq, List.drop_of_length_le (by rw [s.gprods]; omega)] <;> rfl, by rw [hq, List.drop_of_length_le (by rw [s.gprods]; omega)]; exact o0_f1, y4⟩
def rightG (g : GD) (p : Int) : List Sym := if p = -1 then [⟨3, g.start⟩] else (g.prods[p.toNat]!).2
def behindG (g : GD) (x : Itm) : Option Sym := (rightG g x.p)[x.dot.toNat]?
def behindV (o : Option Sym) : Value := match o with
  | some y => .tuple #[.agg #[.int .i64 y.kind, .int .i64 y.n], .bool true]
  | none => .tuple #[.agg #[.int .i64 0, .int .i64 0], .bool false]
theorem rightG_at {s : SP} {p : Int} {x : PD} (h : ¬ p = -1) (h0 : 0 ≤ p) (hx : s.prods[p.toNat]? = some x) : rightG s.g p = x.right := by
  rw [rightG, if_neg h]
  have h1 : s.g.prods[p.toNat]? = some x.d := map_get hx
  rw [List.getElem!_eq_getElem?_getD, h1]; rfl
theorem idxO_mem {α : Type} [DecidableEq α] {y : α} {l : List α} : 0 ≤ idxO y l 0 ↔ y ∈ l := by
  have key : ∀ (l : List α) (k : Nat), 0 ≤ idxO y l k ↔ y ∈ l := by
    intro l
    induction l with
    | nil => intro k; simp [idxO]
    | cons a l ih =>
      intro k; rw [idxO]
      by_cases h : y = a
      · rw [if_pos h]; simp [h]
      · rw [if_neg h, ih]; simp [h]
  exact key l 0
theorem fS_42 : flatS Tryz.prog 42 [.int .i64, .int .i64] = true := by kernel_rfl
instance pf_127 : PlF Tryz.prog 127 := ⟨by kernel_rfl⟩
instance pf_128 : PlF Tryz.prog 128 := ⟨by kernel_rfl⟩
instance tA_42 : AggT Tryz.prog 42 := ⟨by kernel_rfl⟩
instance tF_42_0 : FdT Tryz.prog 42 0 0 := ⟨by kernel_rfl⟩
instance tF_42_1 : FdT Tryz.prog 42 1 1 := ⟨by kernel_rfl⟩
instance tF_97_0 : FdT Tryz.prog 97 0 0 := ⟨by kernel_rfl⟩
instance tP_32 : PcT Tryz.prog 32 #[(0, 1), (1, 1)] := ⟨by kernel_rfl⟩
instance tS_42 : SzT Tryz.prog 42 2 := ⟨by kernel_rfl⟩
theorem indexItm (l : List Itm) (A : Option Addr) (c : Nat) (y : Itm) (w : World) (hA : RowA w A (l.flatMap Itm.cs)) (hn : l.length ≤ 8796093022208) :
    Calls Tryz.prog 128 #[(.slice A l.length c), (.agg #[(.int .i64 y.p), (.int .i64 y.dot)])] w (Ret (fun v w' => v = .int .i64 (idxO y l 0) ∧ Ext w w')) := by
 refine calls_y (n := 19) Tryz.func128 ?_
 refine go ?_
 refine y_bx ?_
 intro w1 e1 z1 b1
 refine go ?_
 refine xc_loopN (fun m_ f_ Wx => ∃ (i : Nat), m_ = l.length - i ∧ (i ≤ l.length) ∧ (idxO y l 0 = idxO y (l.drop i) i) ∧ f_ 0 = (.slice A l.length c) ∧ f_ 3 = (.pointer (some ⟨w.heap.size, 0, none⟩)) ∧ f_ 7 = (.int .i64 (((l.length : Nat) : Int))) ∧ f_ 8 = (.int .i64 ((i : Nat))) ∧ Ext w1 Wx) (l.length) ?_ ?_
 ·
  exact ⟨0, (by omega), (by omega), (by simp), rfl, rfl, rfl, vW, (Chg.refl _ _)⟩
 ·
  rintro m_ f1 w2 ⟨i, hm_f1, hi, hq, g0_f1, g3_f1, g7_f1, g8_f1, x1⟩
  have hx1 := x1.size
  rw [← usf g0_f1, ← usf g3_f1, ← usf g7_f1, ← usf g8_f1]
  refine go ?_
  refine y_if (fun h1 => ?_) (fun h1 => ?_)
  ·
   refine go ?_
   refine xc_regionE [] (fun W_ => Chg (fun _ => False) w2 W_) hmix ?_
   intro w3 e2 z2
   have hS1 : Chg (fun _ => False) w2 w3 := Ext.to e2
   refine yDt (i := 0) rfl hS1 (fun W_ hW_ => ox_loadN (vs := [(.int .i64 y.p), (.int .i64 y.dot)]) tA_42.h tS_42.h rfl rfl ⟨((b1.ext x1).ext hW_).cell rfl, ((b1.ext x1).ext hW_).cell rfl, trivial⟩ ⟨rfl, rfl⟩) ?_
   refine yDp 1 ?_
   refine yDp 2 ?_
   have x2 : Ext w w2 := (Ext.trans e1 x1)
   obtain ⟨x_1, g_1, o_1, hx_1⟩ := row_may (A := A) (cs := Itm.cs) i Itm.len (by decide) (RowA.ext hA x2)
   obtain ⟨hx_2, hA_1, hc_1⟩ := hx_1 oM
   refine yDx (i := 3) i hA_1 ?_
   refine yDt (i := 4) rfl hS1 (fun W_ hW_ => ox_loadN (vs := [(.int .i64 x_1.p), (.int .i64 x_1.dot)]) tA_42.h tS_42.h rfl rfl (CellsL.keep hW_ not_false hc_1) ⟨rfl, rfl⟩) ?_
   refine yDq (i := 5) rfl (fun W_ hW_ => ox_eqlF (xs := [(.int .i64 y.p), (.int .i64 y.dot)]) (ys := [(.int .i64 x_1.p), (.int .i64 x_1.dot)]) (p := ((y.p : Int) = x_1.p ∧ (y.dot : Int) = x_1.dot)) fS_42 rfl rfl rfl rfl (by simp) ⟨rfl, rfl⟩) ?_
   refine xd_done (by kernel_rfl) ?_ _
   refine go ?_
   refine y_if (fun h2 => ?_) (fun h2 => ?_)
   ·
    refine go ?_
    refine y_r1 ?_
    have x3 : Ext w w3 := (Ext.trans x2 e2)
    exact ⟨by rw [hq, idxO_hit hx_2 (by have _h := h2; cases y; cases x_1; simp_all)] <;> rfl, x3⟩
   ·
    refine go ?_
    refine y_add ?_
    have x4 : Ext w1 w3 := (Ext.trans x1 e2)
    refine go ?_
    exact ⟨rfl, l.length - (i + 1), by omega, i + 1, by omega, (by omega), (by rw [hq, idxO_next hx_2 (by have _h := h2; cases y; cases x_1; simp_all)]), rfl, rfl, rfl, vW, x4⟩
  ·
   refine go ?_
   refine y_r1 ?_
   have x5 : Ext w w2 := (Ext.trans e1 x1)
   exact ⟨by rw [hq, idxO_end (by omega)] <;> rfl, x5⟩
theorem containsItm (l : List Itm) (A : Option Addr) (c : Nat) (y : Itm) (w : World) (hA : RowA w A (l.flatMap Itm.cs)) (hn : l.length ≤ 8796093022208) :
    Calls Tryz.prog 96 #[(.slice A l.length c), (.agg #[(.int .i64 y.p), (.int .i64 y.dot)])] w (Ret (fun v w' => v = .bool (decide (y ∈ l)) ∧ Ext w w')) := by
 refine calls_y (n := 9) Tryz.func96 ?_
 refine go ?_
 refine y_bx ?_
 intro w1 e1 z1 b1
 refine go ?_
 refine y_lN (vs := [(.int .i64 y.p), (.int .i64 y.dot)]) ⟨b1.cell rfl, b1.cell rfl, trivial⟩ ?_
 refine yCa (ret_mono (indexItm l A c y w1 (hA.ext e1) hn) ?_)
 rintro _ w2 ⟨rfl, e2⟩
 have he2 := e2.size
 refine go ?_
 refine y_r1 ?_
 have x1 : Ext w w2 := (Ext.trans e1 e2)
 exact ⟨congrArg Value.bool (by rw [decide_eq_decide]; exact idxO_mem), x1⟩
theorem right_calls (s : SP) (ba : Nat) (stA : Option Addr) (stn stc : Nat) (p : Int) (w : World) (hb : Blk w ba #[(.slice s.lA s.lex.length s.lc), (.slice s.nA s.names.length s.nc), (.int .i64 s.start), (.slice s.pA s.prods.length s.pc), (.slice stA stn stc)] 97) (hS : SpR w s) (hp : p = -1 ∨ (0 ≤ p ∧ p < (s.prods.length : Int))) :
    Calls Tryz.prog 127 #[(.pointer (some ⟨ba, 0, none⟩)), (.int .i64 p)] w (Ret (fun v w' => ∃ A c, v = .slice A (rightG s.g p).length c ∧ RowA w' A ((rightG s.g p).flatMap Sym.cs) ∧ Ext w w')) := by
 have hfp := hS.fp.le
 refine calls_y (n := 23) Tryz.func127 ?_
 refine go ?_
 refine y_if (fun h1 => ?_) (fun h1 => ?_)
 ·
  refine go ?_
  refine y_ld hb ?_
  refine yOp (ox_mkStruct (ps := [(0, (.int .i64 3)), (1, (.int .i64 s.start))]) (cs := #[(.int .i64 3), (.int .i64 s.start)]) tZ_32.h tP_32.h rfl (by kernel_rfl) ?_)
  refine yOp (ox_mkSlice (ps := [(0, (.agg #[(.int .i64 3), (.int .i64 s.start)]))]) (zs := #[(.int .i64 0), (.int .i64 0)]) (cs := #[(.int .i64 3), (.int .i64 s.start)]) tE_33.h rfl (by decide) (by kernel_rfl) (by kernel_rfl) ?_)
  intro w1 e1 z1 b1
  replace b1 : Blk w1 w.heap.size #[(.int .i64 3), (.int .i64 s.start)] 32 := b1
  refine go ?_
  refine y_r1 ?_
  exact ⟨_, _, by rw [rightG, if_pos h1] <;> rfl, by rw [rightG, if_pos h1]; exact ⟨fun _ => rfl, b1.cell rfl, b1.cell rfl, trivial⟩, e1⟩
 ·
  refine go ?_
  refine y_ld hb ?_
  obtain ⟨x_1, g_1, o_1, hx_1⟩ := row_may (A := s.pA) (cs := PD.cs) p.toNat PD.len (by decide) hS.prods
  obtain ⟨hx_2, hA_1, hc_1⟩ := hx_1 oM
  have hfr_x_1 := (hS.fr _ (List.mem_of_getElem? hx_2)).le
  refine go ?_
  refine y_ix p.toNat hA_1 ?_
  refine go ?_
  refine y_lc (CellsL.at1 hc_1 1 rfl) ?_
  refine go ?_
  refine y_r1 ?_
  exact ⟨_, _, by rw [rightG_at h1 (by omega) (show s.prods[p.toNat]? = some x_1 from hx_2)] <;> rfl, by rw [rightG_at h1 (by omega) (show s.prods[p.toNat]? = some x_1 from hx_2)]; exact (hS.right _ (List.mem_of_getElem? hx_2)).ext (Chg.refl _ _), (Chg.refl _ _)⟩
theorem behind_calls (s : SP) (ba : Nat) (stA : Option Addr) (stn stc : Nat) (x : Itm) (w : World) (hb : Blk w ba #[(.slice s.lA s.lex.length s.lc), (.slice s.nA s.names.length s.nc), (.int .i64 s.start), (.slice s.pA s.prods.length s.pc), (.slice stA stn stc)] 97) (hS : SpR w s) (hx : x.p = -1 ∨ (0 ≤ x.p ∧ x.p < (s.prods.length : Int))) (hd : 0 ≤ x.dot) (hl : (rightG s.g x.p).length ≤ 8796093022208) :
    Calls Tryz.prog 95 #[(.pointer (some ⟨ba, 0, none⟩)), (.agg #[(.int .i64 x.p), (.int .i64 x.dot)])] w (Ret (fun v w' => v = behindV (behindG s.g x) ∧ Ext w w')) := by
 have hfp := hS.fp.le
 refine calls_y (n := 22) Tryz.func95 ?_
 refine go ?_
 refine y_bx ?_
 intro w1 e1 z1 b1
 refine y_al ?_
 intro w2 e2 z2 b2
 refine go ?_
 refine y_ld (b1.ext e2) ?_
 have x1 : Ext w w2 := (Ext.trans e1 e2)
 refine yCa (ret_mono (right_calls s ba stA stn stc x.p w2 ((hb.ext e1).ext e2) (hS.ext x1) hx) ?_)
 rintro _ w3 ⟨A1, c1, rfl, hr1, e3⟩
 have he3 := e3.size
 refine go ?_
 refine y_ld ((b1.ext e2).ext e3) ?_
 refine go ?_
 refine y_if (fun h1 => ?_) (fun h1 => ?_)
 ·
  refine go ?_
  refine y_ld ((b1.ext e2).ext e3) ?_
  obtain ⟨x_1, g_1, o_1, hx_1⟩ := row_may (A := A1) (cs := Sym.cs) x.dot.toNat Sym.len (by decide) hr1
  obtain ⟨hx_2, hA_1, hc_1⟩ := hx_1 oM
  refine y_ix x.dot.toNat hA_1 ?_
  refine y_lN (vs := [(.int .i64 x_1.kind), (.int .i64 x_1.n)]) hc_1 ?_
  refine y_st (b2.ext e3) ?_
  intro w4 e4 z3 b3
  replace b3 : Blk w4 w1.heap.size #[(.int .i64 x_1.kind), (.int .i64 x_1.n)] 32 := blk_full b3 rfl
  refine go ?_
  change leaves _ _ _ _ _ _ _
  refine leaves_nil (n := 22) (rs := [.cell 4 32, .tmp 5]) (vs := [(.agg #[(.int .i64 x_1.kind), (.int .i64 x_1.n)]), (.bool true)]) rfl ⟨⟨by decide, w1.heap.size, 0, 2, [(.int .i64 x_1.kind), (.int .i64 x_1.n)], rfl, tA_32.h, tS_32.h, rfl, ⟨b3.cell rfl, b3.cell rfl, trivial⟩, rfl⟩, ⟨by decide, rfl⟩, trivial⟩ ?_
  have x2 : Ext w w4 := (Ext.chg1 (Ext.trans x1 e3) e4 (by omega))
  exact ⟨by rw [show behindG s.g x = some x_1 from hx_2] <;> rfl, x2⟩
 ·
  refine go ?_
  refine yOp (ox_mkStruct (ps := []) (cs := #[(.int .i64 0), (.int .i64 0)]) tZ_32.h tP_32.h rfl (by kernel_rfl) ?_)
  refine y_st (b2.ext e3) ?_
  intro w5 e5 z4 b4
  replace b4 : Blk w5 w1.heap.size #[(.int .i64 0), (.int .i64 0)] 32 := blk_full b4 rfl
  refine go ?_
  change leaves _ _ _ _ _ _ _
  refine leaves_nil (n := 22) (rs := [.cell 4 32, .tmp 5]) (vs := [(.agg #[(.int .i64 0), (.int .i64 0)]), (.bool false)]) rfl ⟨⟨by decide, w1.heap.size, 0, 2, [(.int .i64 0), (.int .i64 0)], rfl, tA_32.h, tS_32.h, rfl, ⟨b4.cell rfl, b4.cell rfl, trivial⟩, rfl⟩, ⟨by decide, rfl⟩, trivial⟩ ?_
  have x3 : Ext w w5 := (Ext.chg1 (Ext.trans x1 e3) e5 (by omega))
  exact ⟨by rw [show behindG s.g x = none from List.getElem?_eq_none (by omega)] <;> rfl, x3⟩
section
variable {P : Program} {ρ : Operand → Value} {w : World} {K : Value → World → Prop} {dst : Option Tmp} {ty : TypeId} {pos : String} {af : Array Edge} {gd : Option (Nat × Bool)}
theorem ox_ixV {x ix : Operand} {t e : TypeId} {sz by_ : Nat} {z : Value} {b o n cp cp' k0 : Nat} {k : IntKind} {i : Int} {A : Option Addr} (i0 m : Nat) (ht : sliceT P t = some (e, sz, by_, z)) (hA : A = some ⟨b, o, none⟩) (hx : ρ x = .slice (sfA A cp k0 sz) n cp') (hc : cp ≠ k0) (hi : ρ ix = .int k i) (h0 : i = (i0 : Int)) (h1 : i0 < n) (hm : m = k0 + i0)
    (h : K (.pointer (some ⟨b, o + m * sz, none⟩)) w) : OpX P ⟨dst, .indexAddr t x ix, ty, pos, af, gd⟩ ρ w K := by
  subst hA; subst hm
  have hs : sfA (some ⟨b, o, none⟩) cp k0 sz = some ⟨b, o + k0 * sz, none⟩ := by simp [sfA, hc, Addr.add]
  rw [hs] at hx
  refine ox_ixA i0 ht rfl hx hi h0 h1 ?_
  rw [Nat.add_mul, ← Nat.add_assoc] at h
  exact h
theorem ox_clearV {α : Type} {c : Call} {x : Operand} {t e : TypeId} {sz by_ N cap k0 cp' : Nat} {z : Value} {A : Option Addr} {cs : α → List Value} {L : List α} {a0 : α} (hc : c = { callee := .builtin .clear, args := #[x], argTypes := #[t] }) (ht : sliceT P t = some (e, sz, by_, z))
    (hsz : 0 < sz) (hlen : ∀ a, (cs a).length = sz) (hone : ∀ a, (cs a).all Value.oneCell' = true) (hx : ρ x = .slice (sfA A cap k0 sz) (N - k0) cp') (hk : k0 ≤ N) (ho : Vx.Own w e sz (.slice A N cap) N (L.flatMap cs))
    (hz : (Builtin.zeroCells z.cells (N - k0)).toList = (List.replicate (N - k0) a0).flatMap cs)
    (h : ∀ w', Chg (fun b => (Value.slice A N cap).ownBlock = some b) w w' → w'.heap.size = w.heap.size → Vx.Own w' e sz (.slice A N cap) N ((L.take k0 ++ List.replicate (N - k0) a0).flatMap cs) → K (.tuple #[]) w') : OpX P ⟨dst, .call c, ty, pos, af, gd⟩ ρ w K := by
  subst hc
  obtain ⟨hu, i, hi, hz1, hs, hby⟩ := slice_of ht
  have hzo : zeroOf P e = some z := by unfold zeroOf; rw [hi]; exact hz1
  have hL : L.length = N := by
    have h1 := ho.len
    rw [fm_len hlen] at h1
    exact Nat.eq_of_mul_eq_mul_right hsz h1
  by_cases h0 : N - k0 = 0
  · refine ox_val (v := .tuple #[]) (w' := w) ?_ (h w (Chg.refl _ _) rfl (by rw [h0, List.take_of_length_le (by omega)]; simpa using ho))
    rw [h0] at hx
    cases hq : sfA A cap k0 sz <;> simp [execOp, resolve, invoke, builtin, Builtin.clear_, hx, hq, Sem.run_bind, Result.andThen, run_underlying hu]
  · obtain ⟨g, c', heq, hcc⟩ := ho.some_of (by omega)
    simp only [Value.slice.injEq, true_and] at heq
    obtain ⟨rfl, rfl⟩ := heq
    obtain ⟨cur, hb, hz2, hup⟩ := ho.toBlk
    have hs2 : sfA (some ⟨g, 0, none⟩) cap k0 sz = some ⟨g, k0 * sz, none⟩ := by
      have : cap ≠ k0 := by omega
      simp [sfA, this, Addr.add]
      exact fun h => h.symm
    rw [hs2] at hx
    have hfl : ((List.replicate (N - k0) a0).flatMap cs).length = (N - k0) * sz := by rw [fm_len hlen, List.length_replicate]
    have hmul : k0 * sz + (N - k0) * sz = N * sz := by rw [← Nat.add_mul]; congr 1; omega
    obtain ⟨w', hr', hch, hsz', hb'⟩ := Vx.run_storeCells (P := P) ((List.replicate (N - k0) a0).flatMap cs) (k0 * sz) 0 w cur hb (by omega) (fun u hu => List.all_eq_true.1 (fm_one hone _) u hu)
    have ho' := hup ((List.replicate (N - k0) a0).flatMap cs) (k0 * sz) w' (by omega) hb'
    have hset : setL (L.flatMap cs) (k0 * sz) ((List.replicate (N - k0) a0).flatMap cs) = (L.take k0 ++ List.replicate (N - k0) a0).flatMap cs := by
      have h1 := setL_app ((List.replicate (N - k0) a0).flatMap cs) ((L.drop k0).flatMap cs) [] ((L.take k0).flatMap cs) (by rw [hfl, fm_len hlen, List.length_drop, hL])
      rw [List.append_nil, List.append_nil, ← List.flatMap_append, List.take_append_drop, fm_len hlen, List.length_take, hL, Nat.min_eq_left hk] at h1
      rw [h1, List.flatMap_append]
    rw [hset] at ho'
    refine ox_val (v := .tuple #[]) (w' := w') ?_ (h w' (hch.mono fun b _ hb => by cases hb; rfl) hsz' ho')
    rw [← hz] at hr'
    cases hn : N - k0 with
    | zero => exact absurd hn h0
    | succ m =>
      rw [hn] at hx hr'
      simp [execOp, resolve, invoke, builtin, Builtin.clear_, hx, Sem.run_bind, Result.andThen, run_underlying hu, run_zero hzo, hr']
end
def cmpP (p : Sym) : List Sym → List Sym
  | [] => []
  | x :: r => if x = p then cmpP p r else x :: cmpP x r
def compL : List Sym → List Sym
  | [] => []
  | x :: r => x :: cmpP x r
theorem bangS {l : List Sym} {i : Nat} {x : Sym} (h : l[i]? = some x) : l[i]! = x := by rw [List.getElem!_eq_getElem?_getD, h]; rfl
theorem compL_start {l : List Sym} (h : 1 ≤ l.length) : compL l = l.take (1 : Int).toNat ++ cmpP (l[(1 : Int).toNat - 1]!) (l.drop (1 : Int).toNat) := by
  cases l with
  | nil => simp at h
  | cons a l => rfl
theorem compL_short {l : List Sym} (h : l.length < 2) : compL l = l := by
  cases l with
  | nil => rfl
  | cons a l => cases l with
    | nil => rfl
    | cons b l => simp only [List.length_cons] at h; omega
theorem cmpP_keep {l : List Sym} {k k' : Int} {x y : Sym} (h1 : 1 ≤ k) (hx : l[k.toNat]? = some x) (hy : l[k.toNat - 1]? = some y) (hne : x ≠ y) (hk : k' = k + 1) : l.take k.toNat ++ cmpP (l[k.toNat - 1]!) (l.drop k.toNat) = l.take k'.toNat ++ cmpP (l[k'.toNat - 1]!) (l.drop k'.toNat) := by
  subst hk
  have e1 : (k + 1).toNat = k.toNat + 1 := by omega
  rw [e1, Nat.add_sub_cancel, bangS hy, bangS hx, drop_get hx, cmpP, if_neg hne, List.take_add_one, hx]; simp
theorem cmpP_first {l : List Sym} {k : Int} {x y : Sym} (h1 : 1 ≤ k) (hx : l[k.toNat]? = some x) (hy : l[k.toNat - 1]? = some y) (he : x = y) : l.take k.toNat ++ cmpP (l[k.toNat - 1]!) (l.drop k.toNat) = l.take k.toNat ++ cmpP (l[(k + 1 - 1).toNat]!) (l.drop (k + 1).toNat) := by
  have e1 : (k + 1).toNat = k.toNat + 1 := by omega
  have e2 : (k + 1 - 1).toNat = k.toNat := by omega
  rw [e1, e2, bangS hy, bangS hx, drop_get hx, cmpP, if_pos he, he]
theorem compL_all {l : List Sym} {k : Int} (hq : compL l = l.take k.toNat ++ cmpP (l[k.toNat - 1]!) (l.drop k.toNat)) (h : (l.length : Int) ≤ k) : compL l = l := by
  rw [hq, List.take_of_length_le (by omega), List.drop_of_length_le (by omega), cmpP, List.append_nil]
theorem compL_end {l M : List Sym} {q k j : Int} (hq : compL l = M.take q.toNat ++ cmpP (M[(k + j - 1).toNat]!) (l.drop (k + j).toNat)) (h : (l.length : Int) ≤ k + j) : compL l = M.take q.toNat := by
  rw [hq, List.drop_of_length_le (by omega), cmpP, List.append_nil]
theorem compL_len {l M : List Sym} {q k j : Int} (hq : compL l = M.take q.toNat ++ cmpP (M[(k + j - 1).toNat]!) (l.drop (k + j).toNat)) (h : (l.length : Int) ≤ k + j) (hl : q.toNat ≤ M.length) : (compL l).length = q.toNat := by
  rw [compL_end hq h, List.length_take, Nat.min_eq_left hl]
theorem cmpP_drop0 {l M : List Sym} {k j : Int} (hd : M.drop (k + j - 1).toNat = l.drop (k + j - 1).toNat) (h : 1 ≤ k + j) : M.drop (k + (j + 1) - 1).toNat = l.drop (k + (j + 1) - 1).toNat := by
  have e : (k + (j + 1) - 1).toNat = (k + j - 1).toNat + 1 := by omega
  rw [e, ← List.drop_drop, ← List.drop_drop, hd]
theorem cmpP_drop {l M : List Sym} {q k j : Int} {x : Sym} (hd : M.drop (k + j - 1).toNat = l.drop (k + j - 1).toNat) (h : 1 ≤ k + j) (hq : q ≤ k + j - 1 ∧ 0 ≤ q) : (M.set q.toNat x).drop (k + (j + 1) - 1).toNat = l.drop (k + (j + 1) - 1).toNat := by
  rw [List.drop_set_of_lt (by omega)]; exact cmpP_drop0 hd h
theorem drop_at {l M : List Sym} {a b : Nat} (hd : M.drop a = l.drop a) (h : a ≤ b) : M[b]? = l[b]? := by
  have h1 : (M.drop a)[b - a]? = (l.drop a)[b - a]? := by rw [hd]
  rw [List.getElem?_drop, List.getElem?_drop, show a + (b - a) = b by omega] at h1; exact h1
theorem cmpP_skip {l M : List Sym} {q k j : Int} {x y : Sym} (h1 : 1 ≤ k + j) (h2 : 1 ≤ j) (hd : M.drop (k + j - 1).toNat = l.drop (k + j - 1).toNat) (hx : M[(k + j).toNat]? = some x) (hy : M[(k + j - 1).toNat]? = some y) (he : x = y) (h3 : 0 ≤ k) : M.take q.toNat ++ cmpP (M[(k + j - 1).toNat]!) (l.drop (k + j).toNat) = M.take q.toNat ++ cmpP (M[(k + (j + 1) - 1).toNat]!) (l.drop (k + (j + 1)).toNat) := by
  have hx' : l[(k + j).toNat]? = some x := by rw [← drop_at hd (by omega)]; exact hx
  rw [show (k + (j + 1) - 1).toNat = (k + j).toNat by omega, show (k + (j + 1)).toNat = (k + j).toNat + 1 by omega, bangS hx, bangS hy, drop_get hx', cmpP, if_pos he, he]
theorem cmpP_put {l M : List Sym} {q k j : Int} {x y : Sym} (h1 : 1 ≤ q) (h2 : 1 ≤ j) (h3 : q ≤ k + j - 1) (hd : M.drop (k + j - 1).toNat = l.drop (k + j - 1).toNat) (hx : M[(k + j).toNat]? = some x) (hy : M[(k + j - 1).toNat]? = some y) (hne : x ≠ y) (h4 : 0 ≤ k) (h5 : q.toNat < M.length) : M.take q.toNat ++ cmpP (M[(k + j - 1).toNat]!) (l.drop (k + j).toNat) = (M.set q.toNat x).take (q + 1).toNat ++ cmpP ((M.set q.toNat x)[(k + (j + 1) - 1).toNat]!) (l.drop (k + (j + 1)).toNat) := by
  have hx' : l[(k + j).toNat]? = some x := by rw [← drop_at hd (by omega)]; exact hx
  have hx2 : (M.set q.toNat x)[(k + j).toNat]? = some x := by rw [List.getElem?_set_ne (by omega)]; exact hx
  rw [show (k + (j + 1) - 1).toNat = (k + j).toNat by omega, show (k + (j + 1)).toNat = (k + j).toNat + 1 by omega, show (q + 1).toNat = q.toNat + 1 by omega, bangS hx2, bangS hy, drop_get hx', cmpP, if_neg hne, List.take_add_one, List.getElem?_set_self h5, List.take_set_of_le (Nat.le_refl _)]; simp
theorem Own.takeD {α : Type} {w : World} {e k n c m : Nat} {A : Option Addr} {cs : α → List Value} {l : List α} (hk : ∀ a, (cs a).length = k) (h0 : 0 < k) (h : Vx.Own w e k (.slice A n c) n (l.flatMap cs)) (hm : m ≤ n) : Vx.Own w e k (.slice A m c) m ((l.take m).flatMap cs) := by
  have hl : l.length = n := by
    have h1 := h.len
    rw [fm_len hk] at h1
    exact Nat.eq_of_mul_eq_mul_right h0 h1
  have h1 : l.flatMap cs = (l.take m).flatMap cs ++ (l.drop m).flatMap cs := by rw [← List.flatMap_append, List.take_append_drop]
  have h2 := Vx.Own.take h hm
  rw [h1] at h2
  have h3 : ((l.take m).flatMap cs).length = m * k := by rw [fm_len hk, List.length_take, Nat.min_eq_left (by omega)]
  rw [← h3, List.take_left] at h2
  exact h2
theorem fS_32 : flatS Tryz.prog 32 [.int .i64, .int .i64] = true := by kernel_rfl
theorem compact_calls (l : List Sym) (A : Option Addr) (c : Nat) (w : World) (hO : Vx.Own w 32 2 (.slice A l.length c) l.length (l.flatMap Sym.cs)) (hc : l.length ≤ c) (hn : l.length ≤ 8796093022208) :
    Calls Tryz.prog 101 #[(.slice A l.length c)] w (Ret (fun v w' => ∃ c', v = .slice A (compL l).length c' ∧ Vx.Own w' 32 2 (.slice A (compL l).length c') (compL l).length ((compL l).flatMap Sym.cs) ∧ Chg (fun b => (Value.slice A l.length c).ownBlock = some b) w w')) := by
 refine calls_y (n := 61) Tryz.func101 ?_
 refine go ?_
 refine y_if (fun h1 => ?_) (fun h1 => ?_)
 ·
  refine go ?_
  refine y_r1 ?_
  have y1 : Chg (fun b => ((.slice A l.length c) : Value).ownBlock = some b) w w := (Chg.refl (fun b => ((.slice A l.length c) : Value).ownBlock = some b) w)
  exact ⟨_, by rw [compL_short (by omega)] <;> rfl, by rw [compL_short (by omega)]; exact hO, y1⟩
 ·
  refine go ?_
  refine xc_loopN (fun m_ f_ Wx => ∃ (k : Int), m_ = l.length - k.toNat ∧ (1 ≤ k ∧ k ≤ (l.length : Int)) ∧ (compL l = l.take k.toNat ++ cmpP (l[k.toNat - 1]!) (l.drop k.toNat)) ∧ f_ 0 = (.slice A l.length c) ∧ f_ 3 = (.int .i64 k) ∧ Ext w Wx) (l.length - 1) ?_ ?_
  ·
   exact ⟨1, (by omega), (by omega), (compL_start (by omega)), rfl, vW, (Chg.refl _ _)⟩
  ·
   rintro m_ f1 w1 ⟨k, hm_f1, hk, hq, g0_f1, g3_f1, x1⟩
   have hx1 := x1.size
   rw [← usf g0_f1, ← usf g3_f1]
   refine go ?_
   refine y_if (fun h2 => ?_) (fun h2 => ?_)
   ·
    refine go ?_
    refine xc_regionE [] (fun W_ => Chg (fun _ => False) w1 W_) hmix ?_
    intro w2 e1 z1
    have hS1 : Chg (fun _ => False) w1 w2 := Ext.to e1
    refine yDp 0 ?_
    refine yDp 1 ?_
    obtain ⟨x_1, g_1, hx_1⟩ := own_may (A := A) k.toNat Sym.len (by decide) (hO.ext x1)
    obtain ⟨hx_2, hA_1, hc_1⟩ := hx_1 oM
    refine yDx (i := 2) k.toNat hA_1 ?_
    refine yDt (i := 3) rfl hS1 (fun W_ hW_ => ox_loadN (vs := [(.int .i64 x_1.kind), (.int .i64 x_1.n)]) tA_32.h tS_32.h rfl rfl (CellsL.keep hW_ not_false hc_1) ⟨rfl, rfl⟩) ?_
    refine yDp 4 ?_
    refine yDp 5 ?_
    refine yDq (i := 6) rfl (fun W_ hW_ => ox_sub64 (a := k) (b := 1) rfl rfl (by omega) ⟨rfl, rfl⟩) ?_
    obtain ⟨x_2, g_2, hx_3⟩ := own_may (A := A) ((k - 1).toNat) Sym.len (by decide) (hO.ext x1)
    obtain ⟨hx_4, hA_2, hc_2⟩ := hx_3 oM
    refine yDx (i := 7) ((k - 1).toNat) hA_2 ?_
    refine yDt (i := 8) rfl hS1 (fun W_ hW_ => ox_loadN (vs := [(.int .i64 x_2.kind), (.int .i64 x_2.n)]) tA_32.h tS_32.h rfl rfl (CellsL.keep hW_ not_false hc_2) ⟨rfl, rfl⟩) ?_
    refine yDq (i := 9) rfl (fun W_ hW_ => ox_eqlF (xs := [(.int .i64 x_1.kind), (.int .i64 x_1.n)]) (ys := [(.int .i64 x_2.kind), (.int .i64 x_2.n)]) (p := ((x_1.kind : Int) = x_2.kind ∧ (x_1.n : Int) = x_2.n)) fS_32 rfl rfl rfl rfl (by simp) ⟨rfl, rfl⟩) ?_
    refine xd_done (by kernel_rfl) ?_ _
    refine go ?_
    refine y_if (fun h3 => ?_) (fun h3 => ?_)
    ·
     refine go ?_
     refine yOp (ox_sliceFromV (A := A) (n := l.length) (cp := c) (i := k) k.toNat tE_33.h rfl rfl (by omega) (by omega) ?_)
     have hsame : x_1 = x_2 := by have _h := h3; cases x_1; cases x_2; simp_all
     refine go ?_
     refine xc_loopN (fun m_ f_ Wx => ∃ (q : Int) (j : Int) (M : List Sym), m_ = l.length - (k + j).toNat ∧ (1 ≤ j ∧ k + j ≤ (l.length : Int)) ∧ (1 ≤ q ∧ q ≤ k + j - 1) ∧ (compL l = M.take q.toNat ++ cmpP (M[(k + j - 1).toNat]!) (l.drop (k + j).toNat)) ∧ (M.drop (k + j - 1).toNat = l.drop (k + j - 1).toNat) ∧ f_ 0 = (.slice A l.length c) ∧ f_ 10 = (.int .i64 k) ∧ f_ 11 = (.slice A l.length c) ∧ f_ 12 = (.int .i64 (((l.length : Nat) : Int))) ∧ f_ 13 = (.bool (decide ((k : Int) < (((l.length : Nat) : Int))))) ∧ f_ 16 = (.slice A l.length c) ∧ f_ 17 = (.int .i64 k) ∧ f_ 18 = (.pointer (some ⟨g_1, 0 + k.toNat * 2, none⟩)) ∧ f_ 19 = (.agg #[(.int .i64 x_1.kind), (.int .i64 x_1.n)]) ∧ f_ 20 = (.slice A l.length c) ∧ f_ 21 = (.int .i64 k) ∧ f_ 22 = (.int .i64 (k - 1)) ∧ f_ 23 = (.pointer (some ⟨g_2, 0 + ((k - 1).toNat) * 2, none⟩)) ∧ f_ 24 = (.agg #[(.int .i64 x_2.kind), (.int .i64 x_2.n)]) ∧ f_ 25 = (.bool (decide (((x_1.kind : Int) = x_2.kind ∧ (x_1.n : Int) = x_2.n)))) ∧ f_ 26 = (.slice A l.length c) ∧ f_ 27 = (.int .i64 k) ∧ f_ 28 = (.slice ((sfA A c k.toNat 2)) ((l.length - k.toNat)) ((c - k.toNat))) ∧ f_ 4 = (.slice ((sfA A c k.toNat 2)) ((l.length - k.toNat)) ((c - k.toNat))) ∧ f_ 3 = (.int .i64 q) ∧ f_ 5 = (.int .i64 j) ∧ Vx.Own Wx 32 2 (.slice A l.length c) l.length (M.flatMap Sym.cs) ∧ Chg (fun b => ((.slice A l.length c) : Value).ownBlock = some b) w2 Wx) (l.length - (k + 1).toNat) ?_ ?_
     ·
      exact ⟨k, 1, l, (by omega), (by omega), (by omega), (hq.trans (cmpP_first (by omega) hx_2 (show l[k.toNat - 1]? = some x_2 by rw [show k.toNat - 1 = (k - 1).toNat by omega]; exact hx_4) hsame)), rfl, rfl, rfl, rfl, rfl, rfl, rfl, rfl, rfl, rfl, rfl, rfl, rfl, rfl, rfl, rfl, rfl, rfl, rfl, rfl, vW, vW, ((hO.ext x1).ext e1), (Chg.refl _ _)⟩
     ·
      rintro m_ f2 w3 ⟨q, j, M, hm_f2, hj, hkq, hq1, hd1, g0_f2, g10_f2, g11_f2, g12_f2, g13_f2, g16_f2, g17_f2, g18_f2, g19_f2, g20_f2, g21_f2, g22_f2, g23_f2, g24_f2, g25_f2, g26_f2, g27_f2, g28_f2, g4_f2, g3_f2, g5_f2, o0_f2, x2⟩
      have hx2 := x2.size
      have hl_M : M.length = l.length := by have _q := (o0_f2).len; rw [fm_len Sym.len] at _q; omega
      rw [← usf g0_f2, ← usf g10_f2, ← usf g11_f2, ← usf g12_f2, ← usf g13_f2, ← usf g16_f2, ← usf g17_f2, ← usf g18_f2, ← usf g19_f2, ← usf g20_f2, ← usf g21_f2, ← usf g22_f2, ← usf g23_f2, ← usf g24_f2, ← usf g25_f2, ← usf g26_f2, ← usf g27_f2, ← usf g28_f2, ← usf g4_f2, ← usf g3_f2, ← usf g5_f2]
      refine go ?_
      refine y_if (fun h4 => ?_) (fun h4 => ?_)
      ·
       refine go ?_
       refine xc_regionE [] (fun W_ => Chg (fun _ => False) w3 W_) hmix ?_
       intro w4 e2 z2
       have hS2 : Chg (fun _ => False) w3 w4 := Ext.to e2
       refine yDp 0 ?_
       refine yDp 1 ?_
       obtain ⟨x_3, g_3, hx_5⟩ := own_may (A := A) ((k + j).toNat) Sym.len (by decide) o0_f2
       obtain ⟨hx_6, hA_3, hc_3⟩ := hx_5 oM
       refine yDq (i := 2) rfl (fun W_ hW_ => ox_ixV (b := g_3) (o := 0) (i := j) (k0 := k.toNat) j.toNat ((k + j).toNat) tE_33.h hA_3 rfl (by omega) rfl (by omega) (by omega) (by omega) ⟨rfl, rfl⟩) ?_
       refine yDt (i := 3) rfl hS2 (fun W_ hW_ => ox_loadN (vs := [(.int .i64 x_3.kind), (.int .i64 x_3.n)]) tA_32.h tS_32.h rfl rfl (CellsL.keep hW_ not_false hc_3) ⟨rfl, rfl⟩) ?_
       refine yDp 4 ?_
       refine yDp 5 ?_
       refine yDq (i := 6) rfl (fun W_ hW_ => ox_sub64 (a := j) (b := 1) rfl rfl (by omega) ⟨rfl, rfl⟩) ?_
       obtain ⟨x_4, g_4, hx_7⟩ := own_may (A := A) ((k + j - 1).toNat) Sym.len (by decide) o0_f2
       obtain ⟨hx_8, hA_4, hc_4⟩ := hx_7 oM
       refine yDq (i := 7) rfl (fun W_ hW_ => ox_ixV (b := g_4) (o := 0) (i := (j - 1)) (k0 := k.toNat) ((j - 1).toNat) ((k + j - 1).toNat) tE_33.h hA_4 rfl (by omega) rfl (by omega) (by omega) (by omega) ⟨rfl, rfl⟩) ?_
       refine yDt (i := 8) rfl hS2 (fun W_ hW_ => ox_loadN (vs := [(.int .i64 x_4.kind), (.int .i64 x_4.n)]) tA_32.h tS_32.h rfl rfl (CellsL.keep hW_ not_false hc_4) ⟨rfl, rfl⟩) ?_
       refine yDq (i := 9) rfl (fun W_ hW_ => ox_neqF (xs := [(.int .i64 x_3.kind), (.int .i64 x_3.n)]) (ys := [(.int .i64 x_4.kind), (.int .i64 x_4.n)]) (p := ((x_3.kind : Int) = x_4.kind ∧ (x_3.n : Int) = x_4.n)) fS_32 rfl rfl rfl rfl (by simp) ⟨rfl, rfl⟩) ?_
       refine xd_done (by kernel_rfl) ?_ _
       refine go ?_
       refine xc_cond (b := (!decide (((x_3.kind : Int) = x_4.kind ∧ (x_3.n : Int) = x_4.n)))) rfl (fun h5 => ?_) (fun h5 => ?_)
       ·
        have h5' := bS h5
        refine go ?_
        refine yOp (ox_ixV (b := g_3) (o := 0) (i := j) (k0 := k.toNat) j.toNat ((k + j).toNat) tE_33.h hA_3 rfl (by omega) rfl (by omega) (by omega) (by omega) ?_)
        refine y_lN (vs := [(.int .i64 x_3.kind), (.int .i64 x_3.n)]) (CellsL.keep e2 not_false hc_3) ?_
        obtain ⟨x_5, g_5, hx_9⟩ := own_may (A := A) q.toNat Sym.len (by decide) (o0_f2.ext e2)
        obtain ⟨hx_10, hA_5, hc_5⟩ := hx_9 oM
        refine y_ix q.toNat hA_5 ?_
        refine yNp (ox_stE (i := q.toNat) (off := 0) (vs := [(.int .i64 x_3.kind), (.int .i64 x_3.n)]) (b := ((⟨x_3.kind, x_3.n⟩ : Sym) : Sym)) Sym.len tS_32.h hA_5 rfl (v := (.agg #[(.int .i64 x_3.kind), (.int .i64 x_3.n)])) rfl rfl rfl rfl (o0_f2.ext e2) hx_10 rfl (by decide) (by omega) ?_)
        intro w5 e3 z3 o1
        refine go ?_
        refine y_add ?_
        refine go ?_
        refine y_add ?_
        have y2 : Chg (fun b => ((.slice A l.length c) : Value).ownBlock = some b) w2 w5 := (Chg.trans (Chg.ext (Chg.trans (Chg.refl (fun b => ((.slice A l.length c) : Value).ownBlock = some b) w2) x2 (fun b hb hl => hb)) e2) e3 (fun b hb hl => hb))
        refine go ?_
        exact ⟨rfl, l.length - (k + (j + 1)).toNat, by omega, (q + 1), (j + 1), (M.set q.toNat ((⟨x_3.kind, x_3.n⟩ : Sym))), by omega, (by omega), (by omega), (hq1.trans (cmpP_put (x := x_3) (y := x_4) (by omega) (by omega) (by omega) hd1 hx_6 hx_8 (fun hh => by have _h := h5; rw [hh] at _h; simp at _h) (by omega) (by omega))), (cmpP_drop hd1 (by omega) (by omega)), rfl, rfl, rfl, rfl, rfl, rfl, rfl, rfl, rfl, rfl, rfl, rfl, rfl, rfl, rfl, rfl, rfl, rfl, rfl, vW, vW, o1, y2⟩
       ·
        have h5' := bS h5
        refine go ?_
        refine y_add ?_
        have y3 : Chg (fun b => ((.slice A l.length c) : Value).ownBlock = some b) w2 w4 := (Chg.ext (Chg.trans (Chg.refl (fun b => ((.slice A l.length c) : Value).ownBlock = some b) w2) x2 (fun b hb hl => hb)) e2)
        refine go ?_
        exact ⟨rfl, l.length - (k + (j + 1)).toNat, by omega, q, (j + 1), M, by omega, (by omega), (by omega), (hq1.trans (cmpP_skip (x := x_3) (y := x_4) (by omega) (by omega) hd1 hx_6 hx_8 (by have _h := h5; cases x_3; cases x_4; simp_all) (by omega))), (cmpP_drop0 hd1 (by omega)), rfl, rfl, rfl, rfl, rfl, rfl, rfl, rfl, rfl, rfl, rfl, rfl, rfl, rfl, rfl, rfl, rfl, rfl, rfl, rfl, vW, (o0_f2.ext e2), y3⟩
      ·
       refine go ?_
       refine yOp (ox_sliceFromV (A := A) (n := l.length) (cp := c) (i := q) q.toNat tE_33.h rfl rfl (by omega) (by omega) ?_)
       refine yNp (ox_clearV (cs := Sym.cs) (L := M) (a0 := ⟨0, 0⟩) (k0 := q.toNat) rfl tE_33.h (by decide) Sym.len Sym.one rfl (by omega) o0_f2 (made_flat (cs := Sym.cs) (x := ⟨0, 0⟩) rfl (by decide) _) ?_)
       intro w6 e4 z4 o2
       have he4 := e4.size
       refine go ?_
       refine yOp (ox_sliceToN (A := A) (cp := c) (i := q) q.toNat tE_33.h rfl rfl (by omega) (by omega) (by omega) ?_)
       refine go ?_
       refine y_r1 ?_
       have y4 : Chg (fun b => ((.slice A l.length c) : Value).ownBlock = some b) w w6 := (Chg.trans (Chg.trans (Chg.ext (Chg.ext (Chg.refl (fun b => ((.slice A l.length c) : Value).ownBlock = some b) w) x1) e1) x2 (fun b hb hl => hb)) e4 (fun b hb hl => hb))
       exact ⟨_, by rw [compL_len hq1 (by omega) (by omega)] <;> rfl, by rw [compL_len hq1 (by omega) (by omega), compL_end hq1 (by omega)]; have h9 := Own.takeD (m := q.toNat) Sym.len (by decide) o2 (by omega); rw [List.take_append_of_le_length (by rw [List.length_take]; omega), List.take_take, Nat.min_self] at h9; exact h9, y4⟩
    ·
     refine go ?_
     refine y_add ?_
     have x3 : Ext w w2 := (Ext.trans x1 e1)
     refine go ?_
     exact ⟨rfl, l.length - (k + 1).toNat, by omega, (k + 1), by omega, (by omega), (hq.trans (cmpP_keep (by omega) hx_2 (show l[k.toNat - 1]? = some x_2 by rw [show k.toNat - 1 = (k - 1).toNat by omega]; exact hx_4) (fun hh => by have _h := h3; rw [hh] at _h; simp at _h) (by omega))), rfl, vW, x3⟩
   ·
    refine go ?_
    refine y_r1 ?_
    have y5 : Chg (fun b => ((.slice A l.length c) : Value).ownBlock = some b) w w1 := (Chg.ext (Chg.refl (fun b => ((.slice A l.length c) : Value).ownBlock = some b) w) x1)
    exact ⟨_, by rw [compL_all hq (by omega)] <;> rfl, by rw [compL_all hq (by omega)]; exact (hO.ext x1), y5⟩
theorem stepB_len (good : Sym → Bool) : ∀ (l : List P2) (h : List Bool) (g : Bool), (stepB good l h g).1.length = h.length
  | [], h, g => rfl
  | p :: r, h, g => by
    simp only [stepB]; split
    · rw [stepB_len good r]; simp
    · exact stepB_len good r h g
theorem count_set {h : List Bool} {i : Nat} (hi : h[i]! = false) (hl : i < h.length) : (h.set i true).count false + 1 = h.count false := by
  induction h generalizing i with
  | nil => simp at hl
  | cons b h ih =>
    cases i with
    | zero => simp at hi; subst hi; simp
    | succ i =>
      have := ih (i := i) (by simpa using hi) (by simpa using hl)
      cases b <;> simp [List.count_cons] <;> omega
theorem stepB_mu (good : Sym → Bool) : ∀ (l : List P2) (h : List Bool) (g : Bool), (∀ p ∈ l, p.1.toNat < h.length) → (stepB good l h g).1.count false ≤ h.count false ∧ ((stepB good l h g).2 = true → g = true ∨ (stepB good l h g).1.count false < h.count false)
  | [], h, g, _ => ⟨Nat.le_refl _, fun e => .inl e⟩
  | p :: r, h, g, hl => by
    simp only [stepB]; split
    · rename_i hc
      obtain ⟨h1, h2⟩ := stepB_mu good r (h.set p.1.toNat true) true (fun q hq => by rw [List.length_set]; exact hl q (List.mem_cons_of_mem _ hq))
      have h4 := count_set hc.1 (hl p List.mem_cons_self)
      exact ⟨by omega, fun _ => .inr (by omega)⟩
    · exact stepB_mu good r h g (fun q hq => hl q (List.mem_cons_of_mem _ hq))
theorem stepB_dec (good : Sym → Bool) {g : GD} (hG : GoodG g) {h : List Bool} (hl : h.length = g.names) (hg : (stepB good g.prods h false).2 = true) : (stepB good g.prods h false).1.count false < h.count false := by
  rcases (stepB_mu good g.prods h false (fun p hp => by have := hG.2 p hp; omega)).2 hg with h1 | h1
  · cases h1
  · exact h1
def madeG (good : Sym → Bool) (g : GD) : List Bool := fixN (fun h => stepB good g.prods h false) ((List.replicate g.names false).count false + 1) (List.replicate g.names false)
theorem madeG_len (good : Sym → Bool) (g : GD) : (madeG good g).length = g.names := fixN_inv (P := fun h => h.length = g.names) (fun h hh => (stepB_len good _ h false).trans hh) _ _ List.length_replicate
instance pf_120 : PlF Tryz.prog 120 := ⟨by kernel_rfl⟩
instance pf_121 : PlF Tryz.prog 121 := ⟨by kernel_rfl⟩
instance pf_126 : PlF Tryz.prog 126 := ⟨by kernel_rfl⟩
instance pf_90 : PlF Tryz.prog 90 := ⟨by kernel_rfl⟩
theorem check1_calls (x : Sym) (w : World)  :
    Calls Tryz.prog 91 #[(.agg #[(.int .i64 x.kind), (.int .i64 x.n)])] w (Ret (fun v w' => v = .bool true ∧ Ext w w')) := by
 refine calls_y (n := 3) Tryz.func91 ?_
 refine go ?_
 refine y_bx ?_
 intro w1 e1 z1 b1
 refine go ?_
 refine y_r1 ?_
 exact ⟨rfl, e1⟩
theorem nullable1_calls (x : Sym) (w : World)  :
    Calls Tryz.prog 126 #[(.agg #[(.int .i64 x.kind), (.int .i64 x.n)])] w (Ret (fun v w' => v = .bool false ∧ Ext w w')) := by
 refine calls_y (n := 3) Tryz.func126 ?_
 refine go ?_
 refine y_bx ?_
 intro w1 e1 z1 b1
 refine go ?_
 refine y_r1 ?_
 exact ⟨rfl, e1⟩
theorem check2_calls (x : Sym) (w : World)  :
    Calls Tryz.prog 93 #[(.agg #[(.int .i64 x.kind), (.int .i64 x.n)])] w (Ret (fun v w' => v = .int .i64 257 ∧ Ext w w')) := by
 refine calls_y (n := 3) Tryz.func93 ?_
 refine go ?_
 refine y_bx ?_
 intro w1 e1 z1 b1
 refine go ?_
 refine y_r1 ?_
 exact ⟨rfl, e1⟩
theorem made_calls (s : SP) (good : Sym → Bool) (G : Nat) (CB : List Value) (w : World) (hS : SpR w s) (hG : GoodG s.g) (hp : plainF Tryz.prog G = true) (hg : ∀ x W, Calls Tryz.prog G ([Value.agg (Sym.cs x).toArray] ++ CB).toArray W (Ret fun v W' => v = .bool (good x) ∧ Ext W W')) :
    Calls Tryz.prog 90 #[(.agg #[(.slice s.lA s.lex.length s.lc), (.slice s.nA s.names.length s.nc), (.int .i64 s.start), (.slice s.pA s.prods.length s.pc)]), (.func (.func G) #[] CB.toArray)] w (Ret (fun v w' => ∃ A, v = .slice A s.names.length s.names.length ∧ Vx.Own w' 4 1 (.slice A s.names.length s.names.length) s.names.length ((madeG good s.g).flatMap bools) ∧ (∀ k, (Value.slice A s.names.length s.names.length).ownBlock = some k → w.heap.size ≤ k) ∧ Ext w w')) := by
 have hfn := hS.fn.le
 refine calls_y (n := 11) Tryz.func90 ?_
 refine go ?_
 refine y_bx ?_
 intro w1 e1 z1 b1
 refine y_bx ?_
 intro w2 e2 z2 b2
 refine go ?_
 refine y_ld (b1.ext e2) ?_
 refine go ?_
 refine yOp (ox_makeD (n := s.names.length) (l := ((List.replicate s.names.length false))) (cs := bools) tE_144.h rfl rfl (by omega) (by omega) (made_bools _) ?_)
 intro A1 w3 o1 e3 lo1
 have he3 := e3.size
 refine yOp (ox_mkFunc (cs := [(.pointer (some ⟨w.heap.size, 0, none⟩)), (.pointer (some ⟨w1.heap.size, 0, none⟩))]) rfl ?_)
 have x1 : Ext w w3 := (Ext.trans (Ext.trans e1 e2) e3)
 refine yCa (ret_mono (fixedB s.names.length s.names.length A1 _ (fun h => stepB good s.g.prods h false) (fun h => h.count false) (fun h => h.length = s.names.length) 121 [(.pointer (some ⟨w.heap.size, 0, none⟩)), (.pointer (some ⟨w1.heap.size, 0, none⟩))] w3 o1 pf_121.h (List.length_replicate) (fun h hI hg => ⟨(stepB_len good _ h false).trans hI, stepB_dec good hG hI hg⟩) (fun h W hI hO' hc => made1_calls s w.heap.size w1.heap.size s.names.length s.names.length A1 h good G CB w W (((b1.ext e2).ext e3).keep hc (fun _h => o1.ne_blk ((b1.ext e2).ext e3) (by decide) _ _h rfl)) ((b2.ext e3).keep hc (fun _h => o1.ne_blk (b2.ext e3) (by decide) _ _h rfl)) (Chg.trans x1 hc (fun b hb hl => absurd hl (by have _h := lo1 b hb; omega))) (fun k hk => by have _h := lo1 k hk; omega) hS hG rfl hO' hp hg)) ?_)
 rintro _ w4 ⟨rfl, o2, y1⟩
 have hy1 := y1.size
 refine go ?_
 refine y_r1 ?_
 have x2 : Ext w w4 := (Chg.trans x1 y1 (fun b hb hl => (absurd hl (by have _h := lo1 b hb; omega))))
 exact ⟨A1, rfl, by have h9 := o2; exact h9, fun k hk => by have _h := lo1 k hk; omega, x2⟩
theorem nullable_calls (s : SP) (w : World) (hS : SpR w s) (hG : GoodG s.g) :
    Calls Tryz.prog 94 #[(.agg #[(.slice s.lA s.lex.length s.lc), (.slice s.nA s.names.length s.nc), (.int .i64 s.start), (.slice s.pA s.prods.length s.pc)])] w (Ret (fun v w' => ∃ A, v = .slice A s.names.length s.names.length ∧ Vx.Own w' 4 1 (.slice A s.names.length s.names.length) s.names.length ((madeG (fun _ => false) s.g).flatMap bools) ∧ (∀ k, (Value.slice A s.names.length s.names.length).ownBlock = some k → w.heap.size ≤ k) ∧ Ext w w')) := by
 refine calls_y (n := 5) Tryz.func94 ?_
 refine go ?_
 refine y_bx ?_
 intro w1 e1 z1 b1
 refine go ?_
 refine y_lN (vs := [(.slice s.lA s.lex.length s.lc), (.slice s.nA s.names.length s.nc), (.int .i64 s.start), (.slice s.pA s.prods.length s.pc)]) ⟨b1.cell rfl, b1.cell rfl, b1.cell rfl, b1.cell rfl, trivial⟩ ?_
 refine yCa (ret_mono (made_calls s (fun _ => false) 126 [] w1 (hS.ext e1) hG pf_126.h (fun x W => nullable1_calls x W)) ?_)
 rintro _ w2 ⟨A1, rfl, o1, lo1, e2⟩
 have he2 := e2.size
 refine go ?_
 refine y_r1 ?_
 have x1 : Ext w w2 := (Ext.trans e1 e2)
 exact ⟨A1, rfl, by have h9 := o1; exact h9, fun k hk => by have _h := lo1 k hk; omega, x1⟩
def sumR (τ : Sym → Int) (most : Int) (h : List Int) : List Sym → Int → Int
  | [], n => n
  | x :: r, n => sumR τ most h r (if most + 1 < n + (if x.kind = 3 then h[x.n.toNat]! else τ x) then most + 1 else n + (if x.kind = 3 then h[x.n.toNat]! else τ x))
def stepS (add most : Int) (τ : Sym → Int) : List P2 → List Int → Bool → List Int × Bool
  | [], h, g => (h, g)
  | p :: r, h, g => if sumR τ most h p.2 add < h[p.1.toNat]! then stepS add most τ r (h.set p.1.toNat (sumR τ most h p.2 add)) true else stepS add most τ r h g
theorem sumR_next {τ : Sym → Int} {most n m : Int} {h : List Int} {l : List Sym} {k : Nat} {y : Sym} (hy : l[k]? = some y) (hm : (if y.kind = 3 then h[y.n.toNat]! else τ y) = m) : sumR τ most h (l.drop k) n = sumR τ most h (l.drop (k + 1)) (if most + 1 < n + m then most + 1 else n + m) := by
  rw [drop_get hy, sumR, hm]
theorem stepS_yes {add most : Int} {τ : Sym → Int} {p : P2} {r : List P2} {h : List Int} {g : Bool} {n : Int} (hn : sumR τ most h p.2 add = n) (h1 : n < h[p.1.toNat]!) : stepS add most τ (p :: r) h g = stepS add most τ r (h.set p.1.toNat n) true := by rw [stepS, hn, if_pos h1]
theorem stepS_no {add most : Int} {τ : Sym → Int} {p : P2} {r : List P2} {h : List Int} {g : Bool} {n : Int} (hn : sumR τ most h p.2 add = n) (h1 : ¬ (n < h[p.1.toNat]!)) : stepS add most τ (p :: r) h g = stepS add most τ r h g := by rw [stepS, hn, if_neg h1]
theorem rep_next {n i : Nat} {m : Int} (h : i < n) : (List.replicate i m ++ List.replicate (n - i) 0).set i m = List.replicate (i + 1) m ++ List.replicate (n - (i + 1)) 0 := by
  obtain ⟨d, hd⟩ : ∃ d, n - i = d + 1 := ⟨n - i - 1, by omega⟩
  rw [hd, List.replicate_succ, List.set_append_right _ _ (by simp), List.length_replicate, Nat.sub_self, List.set_cons_zero, List.replicate_succ', List.append_assoc, show n - (i + 1) = d by omega]
  rfl
def sumN (h : List Int) : Nat := (h.map Int.toNat).sum
theorem sumN_set : ∀ {h : List Int} {i : Nat} {n : Int}, i < h.length → n < h[i]! → 0 ≤ n → sumN (h.set i n) < sumN h
  | [], _, _, h, _, _ => by simp at h
  | x :: h, 0, n, _, h2, h3 => by simp at h2; simp only [sumN, List.set_cons_zero, List.map_cons, List.sum_cons]; omega
  | x :: h, i + 1, n, h1, h2, h3 => by
    have := sumN_set (h := h) (i := i) (n := n) (by simpa using h1) (by simpa using h2) h3
    simp only [sumN, List.set_cons_succ, List.map_cons, List.sum_cons] at this ⊢; omega
theorem get_bound {h : List Int} {b : Int} (hb : ∀ v ∈ h, 0 ≤ v ∧ v ≤ b) (h0 : 0 ≤ b) (i : Nat) : 0 ≤ h[i]! ∧ h[i]! ≤ b := by
  by_cases hi : i < h.length
  · exact hb _ (List.mem_of_getElem? (bang hi))
  · rw [List.getElem!_eq_getElem?_getD, List.getElem?_eq_none (by omega)]; exact ⟨Int.le_refl _, h0⟩
theorem sumR_nonneg {τ : Sym → Int} {most : Int} {h : List Int} (hm : 0 ≤ most) (hτ : ∀ x, 0 ≤ τ x ∧ τ x ≤ 1073741824) (hb : ∀ v ∈ h, 0 ≤ v ∧ v ≤ most + 1) : ∀ (l : List Sym) (n : Int), 0 ≤ n → 0 ≤ sumR τ most h l n
  | [], _, hn => hn
  | x :: r, n, hn => by
    rw [sumR]
    refine sumR_nonneg hm hτ hb r _ ?_
    have h1 := get_bound hb (by omega) x.n.toNat; have h2 := hτ x
    split <;> split <;> omega
theorem stepS_all {add most : Int} {τ : Sym → Int} {nm : Nat} (hadd : 0 ≤ add ∧ add ≤ 1073741824) (hmost : 0 ≤ most ∧ most ≤ 1073741824) (hτ : ∀ x, 0 ≤ τ x ∧ τ x ≤ 1073741824) : ∀ (l : List P2) (h : List Int) (g : Bool), (∀ p ∈ l, p.1.toNat < nm) → (h.length = nm ∧ ∀ v ∈ h, 0 ≤ v ∧ v ≤ most + 1) →
    ((stepS add most τ l h g).1.length = nm ∧ ∀ v ∈ (stepS add most τ l h g).1, 0 ≤ v ∧ v ≤ most + 1) ∧ sumN (stepS add most τ l h g).1 ≤ sumN h ∧ ((stepS add most τ l h g).2 = true → g = true ∨ sumN (stepS add most τ l h g).1 < sumN h)
  | [], h, g, _, hI => ⟨hI, Nat.le_refl _, fun e => .inl e⟩
  | p :: r, h, g, hl, hI => by
    simp only [stepS]; split
    · rename_i hc
      have h0 := sumR_nonneg (τ := τ) (h := h) hmost.1 hτ hI.2 p.2 add hadd.1
      have hb := get_bound hI.2 (by omega) p.1.toNat
      have hi := hl p List.mem_cons_self
      obtain ⟨h1, h2, h3⟩ := stepS_all (nm := nm) hadd hmost hτ r (h.set p.1.toNat (sumR τ most h p.2 add)) true (fun q hq => hl q (List.mem_cons_of_mem _ hq)) ⟨by rw [List.length_set]; exact hI.1, fun v hv => by
        rcases List.mem_or_eq_of_mem_set hv with h9 | h9
        · exact hI.2 v h9
        · omega⟩
      have h4 := sumN_set (h := h) (i := p.1.toNat) (n := sumR τ most h p.2 add) (by omega) hc h0
      exact ⟨h1, by omega, fun _ => .inr (by omega)⟩
    · exact stepS_all hadd hmost hτ r h g (fun q hq => hl q (List.mem_cons_of_mem _ hq)) hI
theorem stepS_inv {add most : Int} {τ : Sym → Int} {g : GD} {h : List Int} (hG : GoodG g) (hadd : 0 ≤ add ∧ add ≤ 1073741824) (hmost : 0 ≤ most ∧ most ≤ 1073741824) (hτ : ∀ x, 0 ≤ τ x ∧ τ x ≤ 1073741824) (hI : h.length = g.names ∧ ∀ v ∈ h, 0 ≤ v ∧ v ≤ most + 1) (hg : (stepS add most τ g.prods h false).2 = true) :
    ((stepS add most τ g.prods h false).1.length = g.names ∧ ∀ v ∈ (stepS add most τ g.prods h false).1, 0 ≤ v ∧ v ≤ most + 1) ∧ sumN (stepS add most τ g.prods h false).1 < sumN h := by
  obtain ⟨h1, _, h3⟩ := stepS_all (nm := g.names) hadd hmost hτ g.prods h false (fun p hp => by have := hG.2 p hp; omega) hI
  exact ⟨h1, (h3 hg).resolve_left (by decide)⟩
def sumsG (add most : Int) (τ : Sym → Int) (g : GD) : List Int := fixN (fun h => stepS add most τ g.prods h false) (sumN (List.replicate g.names (most + 1)) + 1) (List.replicate g.names (most + 1))
instance pf_124 : PlF Tryz.prog 124 := ⟨by kernel_rfl⟩
instance pf_125 : PlF Tryz.prog 125 := ⟨by kernel_rfl⟩
instance tA_148 : AggF Tryz.prog 148 := ⟨by kernel_rfl⟩
instance tE_27 : SlT Tryz.prog 27 (3, 1, 8, (.int .i64 0)) := ⟨by kernel_rfl⟩
instance tS_3 : SzT Tryz.prog 3 1 := ⟨by kernel_rfl⟩
instance tU_27 : UnS Tryz.prog 27 3 := ⟨by kernel_rfl⟩
theorem sums1_calls (s : SP) (bs ba bg bm n c : Nat) (A : Option Addr) (h0 : List Int) (add most : Int) (τ : Sym → Int) (G : Nat) (CB : List Value) (w0 : World) (w : World) (hbs : Blk w bs #[(.slice s.lA s.lex.length s.lc), (.slice s.nA s.names.length s.nc), (.int .i64 s.start), (.slice s.pA s.prods.length s.pc)] 26) (hba : Blk w ba #[.int .i64 add] 3) (hbg : Blk w bg #[.func (.func G) #[] CB.toArray] 148) (hbm : Blk w bm #[.int .i64 most] 3) (hE0 : Ext w0 w) (hlow : ∀ k, (Value.slice A n c).ownBlock = some k → w0.heap.size ≤ k) (hS : SpR w0 s) (hG : GoodG s.g) (hn : n = s.names.length) (hO : Vx.Own w 3 1 (.slice A n c) n (h0.flatMap ints)) (hb0 : ∀ v ∈ h0, 0 ≤ v ∧ v ≤ most + 1) (hna : ∀ k, (Value.slice A n c).ownBlock = some k → k ≠ ba ∧ k ≠ bm) (hadd : 0 ≤ add ∧ add ≤ 1073741824) (hmost : 0 ≤ most ∧ most ≤ 1073741824) (hp : plainF Tryz.prog G = true) (hτ : ∀ x, 0 ≤ τ x ∧ τ x ≤ 1073741824) (hg : ∀ x W, Calls Tryz.prog G ([Value.agg (Sym.cs x).toArray] ++ CB).toArray W (Ret fun v W' => v = .int .i64 (τ x) ∧ Ext W W')) :
    Calls Tryz.prog 125 #[(.slice A n c), (.pointer (some ⟨bs, 0, none⟩)), (.pointer (some ⟨ba, 0, none⟩)), (.pointer (some ⟨bg, 0, none⟩)), (.pointer (some ⟨bm, 0, none⟩))] w (Ret (fun v w' => v = .tuple #[.slice A n c, .bool (stepS add most τ s.g.prods h0 false).2] ∧ Vx.Own w' 3 1 (.slice A n c) n (((stepS add most τ s.g.prods h0 false).1).flatMap ints) ∧ Chg (fun b => (Value.slice A n c).ownBlock = some b) w w')) := by
 have hfp := hS.fp.le; have hfn := hS.fn.le
 have hsz0_ := hE0.size
 refine calls_y (n := 64) Tryz.func125 ?_
 refine go ?_
 refine y_ld hbs ?_
 refine go ?_
 refine xc_loopN (fun m_ f_ Wx => ∃ (i : Nat) (g : Bool) (h : List Int), m_ = s.prods.length - i ∧ (i ≤ s.prods.length) ∧ (stepS add most τ s.g.prods h0 false = stepS add most τ (s.g.prods.drop i) h g) ∧ (∀ v ∈ h, 0 ≤ v ∧ v ≤ most + 1) ∧ f_ 0 = (.slice A n c) ∧ f_ 2 = (.pointer (some ⟨ba, 0, none⟩)) ∧ f_ 3 = (.pointer (some ⟨bg, 0, none⟩)) ∧ f_ 4 = (.pointer (some ⟨bm, 0, none⟩)) ∧ f_ 6 = (.slice none 0 0) ∧ f_ 7 = (.bool false) ∧ f_ 15 = (.slice s.pA s.prods.length s.pc) ∧ f_ 16 = (.int .i64 (((s.prods.length : Nat) : Int))) ∧ f_ 17 = (.int .i64 ((i : Nat))) ∧ f_ 8 = (.bool g) ∧ Vx.Own Wx 3 1 (.slice A n c) n (h.flatMap ints) ∧ Chg (fun b => ((.slice A n c) : Value).ownBlock = some b) w Wx) (s.prods.length) ?_ ?_
 ·
  exact ⟨0, false, h0, (by omega), (by omega), rfl, hb0, rfl, rfl, rfl, rfl, rfl, rfl, rfl, rfl, vW, rfl, hO, (Chg.refl _ _)⟩
 ·
  rintro m_ f1 w1 ⟨i, g, h, hm_f1, hi, hq, hb, g0_f1, g2_f1, g3_f1, g4_f1, g6_f1, g7_f1, g15_f1, g16_f1, g17_f1, g8_f1, o0_f1, x1⟩
  have hx1 := x1.size
  have hl_h : h.length = n := by have _q := (o0_f1).len; rw [fm_len ints_len] at _q; omega
  rw [← usf g0_f1, ← usf g2_f1, ← usf g3_f1, ← usf g4_f1, ← usf g6_f1, ← usf g7_f1, ← usf g15_f1, ← usf g16_f1, ← usf g17_f1, ← usf g8_f1]
  refine go ?_
  refine y_if (fun h1 => ?_) (fun h1 => ?_)
  ·
   have x2 : Ext w0 w1 := (Chg.trans hE0 x1 (fun b hb hl => (absurd hl (by have _h := hlow b hb; omega))))
   obtain ⟨x_1, g_1, o_1, hx_1⟩ := row_may (A := s.pA) (cs := PD.cs) i PD.len (by decide) (RowA.ext hS.prods x2)
   obtain ⟨hx_2, hA_1, hc_1⟩ := hx_1 oM
   have hfr_x_1 := (hS.fr _ (List.mem_of_getElem? hx_2)).le
   have hgd_x_1 := hG.2 _ (List.mem_of_getElem? (map_get (f := PD.d) hx_2))
   have hgl_x_1 : 0 ≤ x_1.left ∧ x_1.left < (s.names.length : Int) := ⟨hgd_x_1.1, hgd_x_1.2.1⟩
   refine go ?_
   refine y_ix i hA_1 ?_
   refine y_lN (vs := [(.int .i64 x_1.left), (.slice x_1.rA x_1.right.length x_1.rc)]) hc_1 ?_
   refine y_al ?_
   intro w2 e1 z1 b1
   refine y_st b1 ?_
   intro w3 e2 z2 b2
   replace b2 : Blk w3 w1.heap.size #[(.int .i64 x_1.left), (.slice x_1.rA x_1.right.length x_1.rc)] 37 := blk_full b2 rfl
   have q1 := (hba.keep x1 (fun h9 => (hna _ h9).1 rfl))
   have q2 := ((q1.ext e1).keep1 e2 ((q1.ext e1).ne b1 (by decide)))
   refine go ?_
   refine y_ld q2 ?_
   refine go ?_
   refine y_ld b2 ?_
   refine go ?_
   refine xc_loopN (fun m_ f_ Wx => ∃ (k : Nat) (q : Int), m_ = x_1.right.length - k ∧ (k ≤ x_1.right.length) ∧ (sumR τ most h x_1.right add = sumR τ most h (x_1.right.drop k) q) ∧ (0 ≤ q ∧ q ≤ 1073741825) ∧ f_ 0 = (.slice A n c) ∧ f_ 2 = (.pointer (some ⟨ba, 0, none⟩)) ∧ f_ 3 = (.pointer (some ⟨bg, 0, none⟩)) ∧ f_ 4 = (.pointer (some ⟨bm, 0, none⟩)) ∧ f_ 6 = (.slice none 0 0) ∧ f_ 7 = (.bool false) ∧ f_ 15 = (.slice s.pA s.prods.length s.pc) ∧ f_ 16 = (.int .i64 (((s.prods.length : Nat) : Int))) ∧ f_ 17 = (.int .i64 ((i : Nat))) ∧ f_ 8 = (.bool g) ∧ f_ 18 = (.bool (decide (((i : Nat) : Int) < (((s.prods.length : Nat) : Int))))) ∧ f_ 19 = (.pointer (some ⟨g_1, o_1 + i * 2, none⟩)) ∧ f_ 20 = (.agg #[(.int .i64 x_1.left), (.slice x_1.rA x_1.right.length x_1.rc)]) ∧ f_ 10 = (.pointer (some ⟨w1.heap.size, 0, none⟩)) ∧ f_ 21 = (.int .i64 add) ∧ f_ 22 = (.pointer (some ⟨w1.heap.size, 1, none⟩)) ∧ f_ 23 = (.slice x_1.rA x_1.right.length x_1.rc) ∧ f_ 24 = (.int .i64 (((x_1.right.length : Nat) : Int))) ∧ f_ 25 = (.int .i64 ((k : Nat))) ∧ f_ 11 = (.int .i64 q) ∧ Ext w3 Wx) (x_1.right.length) ?_ ?_
   ·
    exact ⟨0, add, (by omega), (by omega), rfl, (by omega), rfl, rfl, rfl, rfl, rfl, rfl, rfl, rfl, rfl, rfl, rfl, rfl, rfl, rfl, rfl, rfl, rfl, rfl, vW, vW, (Chg.refl _ _)⟩
   ·
    rintro m_ f2 w4 ⟨k, q, hm_f2, hk, hk2, hn2, g0_f2, g2_f2, g3_f2, g4_f2, g6_f2, g7_f2, g15_f2, g16_f2, g17_f2, g8_f2, g18_f2, g19_f2, g20_f2, g10_f2, g21_f2, g22_f2, g23_f2, g24_f2, g25_f2, g11_f2, x3⟩
    have hx3 := x3.size
    rw [← usf g0_f2, ← usf g2_f2, ← usf g3_f2, ← usf g4_f2, ← usf g6_f2, ← usf g7_f2, ← usf g15_f2, ← usf g16_f2, ← usf g17_f2, ← usf g8_f2, ← usf g18_f2, ← usf g19_f2, ← usf g20_f2, ← usf g10_f2, ← usf g21_f2, ← usf g22_f2, ← usf g23_f2, ← usf g24_f2, ← usf g25_f2, ← usf g11_f2]
    refine go ?_
    refine y_if (fun h2 => ?_) (fun h2 => ?_)
    ·
     have x4 : Ext w0 w4 := (Ext.trans (Ext.chg1 (Ext.trans x2 e1) e2 (by omega)) x3)
     obtain ⟨x_2, g_2, o_2, hx_3⟩ := row_may (A := x_1.rA) (cs := Sym.cs) k Sym.len (by decide) (RowA.ext ((hS.right _ (List.mem_of_getElem? hx_2))) x4)
     obtain ⟨hx_4, hA_2, hc_2⟩ := hx_3 oM
     refine go ?_
     refine y_ix k hA_2 ?_
     refine y_lN (vs := [(.int .i64 x_2.kind), (.int .i64 x_2.n)]) hc_2 ?_
     refine y_al ?_
     intro w5 e3 z3 b3
     refine y_st b3 ?_
     intro w6 e4 z4 b4
     replace b4 : Blk w6 w4.heap.size #[(.int .i64 x_2.kind), (.int .i64 x_2.n)] 32 := blk_full b4 rfl
     refine go ?_
     refine y_ld b4 ?_
     refine go ?_
     refine y_if (fun h3 => ?_) (fun h3 => ?_)
     ·
      have hsy_ := hgd_x_1.2.2 x_2 (List.mem_of_getElem? hx_4)
      have hτ_ := hτ x_2
      have hsn_ := symE_name hsy_ (by omega); have hgn : s.g.names = s.names.length := rfl
      refine go ?_
      refine y_ld b4 ?_
      have q3 := ((o0_f1.ext e1).keep1 e2 (fun k hk => (o0_f1.ext e1).ne_blk b1 (by decide) k hk))
      have q4 := (((q3.ext x3).ext e3).keep1 e4 (fun k hk => ((q3.ext x3).ext e3).ne_blk b3 (by decide) k hk))
      obtain ⟨x_3, g_3, hx_5⟩ := own_may (A := A) x_2.n.toNat ints_len (by decide) q4
      obtain ⟨hx_6, hA_3, hc_3⟩ := hx_5 oM
      have hby_ := hb _ (List.mem_of_getElem? hx_6)
      refine y_ix x_2.n.toNat hA_3 ?_
      refine y_lc (CellsL.at1 hc_3 0 rfl) ?_
      refine y_add ?_
      have q5 := (hbm.keep x1 (fun h9 => (hna _ h9).2 rfl))
      have q6 := ((q5.ext e1).keep1 e2 ((q5.ext e1).ne b1 (by decide)))
      have q7 := (((q6.ext x3).ext e3).keep1 e4 (((q6.ext x3).ext e3).ne b3 (by decide)))
      refine go ?_
      refine y_ld q7 ?_
      refine y_add ?_
      refine yOp (ox_min (k := .i64) (a := (q + x_3)) (b := (most + 1)) rfl rfl rfl ?_)
      refine go ?_
      refine y_add ?_
      have x5 : Ext w3 w6 := (Ext.chg1 (Ext.trans x3 e3) e4 (by omega))
      refine go ?_
      exact ⟨rfl, x_1.right.length - (k + 1), by omega, k + 1, (if most + 1 < q + x_3 then most + 1 else q + x_3), by omega, (by omega), (hk2.trans (sumR_next hx_4 (by rw [if_pos (by omega), bang_of hx_6]))), (by split <;> omega), rfl, rfl, rfl, rfl, rfl, rfl, rfl, rfl, rfl, rfl, rfl, rfl, rfl, rfl, rfl, rfl, rfl, rfl, vW, vW, x5⟩
     ·
      have hsy_ := hgd_x_1.2.2 x_2 (List.mem_of_getElem? hx_4)
      have hτ_ := hτ x_2
      have q8 := (hbg.keep x1 (fun _h => hO.ne_blk hbg (by decide) _ _h rfl))
      have q9 := ((q8.ext e1).keep1 e2 ((q8.ext e1).ne b1 (by decide)))
      have q10 := (((q9.ext x3).ext e3).keep1 e4 (((q9.ext x3).ext e3).ne b3 (by decide)))
      refine go ?_
      refine y_ld q10 ?_
      refine y_lN (vs := [(.int .i64 x_2.kind), (.int .i64 x_2.n)]) ⟨b4.cell rfl, b4.cell rfl, trivial⟩ ?_
      refine yOp (ox_callV (cap := CB) (al := [(.agg #[(.int .i64 x_2.kind), (.int .i64 x_2.n)])]) hp rfl rfl (ret_mono (hg x_2 w6) ?_))
      rintro _ w7 ⟨rfl, e5⟩
      have he5 := e5.size
      refine y_add ?_
      have q11 := (hbm.keep x1 (fun h9 => (hna _ h9).2 rfl))
      have q12 := ((q11.ext e1).keep1 e2 ((q11.ext e1).ne b1 (by decide)))
      have q13 := (((q12.ext x3).ext e3).keep1 e4 (((q12.ext x3).ext e3).ne b3 (by decide)))
      refine go ?_
      refine y_ld (q13.ext e5) ?_
      refine y_add ?_
      refine yOp (ox_min (k := .i64) (a := (q + (τ x_2))) (b := (most + 1)) rfl rfl rfl ?_)
      refine go ?_
      refine y_add ?_
      have x6 : Ext w3 w7 := (Ext.trans (Ext.chg1 (Ext.trans x3 e3) e4 (by omega)) e5)
      refine go ?_
      exact ⟨rfl, x_1.right.length - (k + 1), by omega, k + 1, (if most + 1 < q + (τ x_2) then most + 1 else q + (τ x_2)), by omega, (by omega), (hk2.trans (sumR_next hx_4 (by rw [if_neg (by omega)]))), (by split <;> omega), rfl, rfl, rfl, rfl, rfl, rfl, rfl, rfl, rfl, rfl, rfl, rfl, rfl, rfl, rfl, rfl, rfl, rfl, vW, vW, x6⟩
    ·
     have hn_ : sumR τ most h x_1.right add = q := by rw [hk2, List.drop_of_length_le (by omega)] <;> rfl
     refine go ?_
     refine y_ld (b2.ext x3) ?_
     have q14 := ((o0_f1.ext e1).keep1 e2 (fun k hk => (o0_f1.ext e1).ne_blk b1 (by decide) k hk))
     obtain ⟨x_4, g_4, hx_7⟩ := own_may (A := A) x_1.left.toNat ints_len (by decide) (q14.ext x3)
     obtain ⟨hx_8, hA_4, hc_4⟩ := hx_7 oM
     refine y_ix x_1.left.toNat hA_4 ?_
     refine y_lc (CellsL.at1 hc_4 0 rfl) ?_
     refine go ?_
     refine y_if (fun h4 => ?_) (fun h4 => ?_)
     ·
      refine go ?_
      refine y_ld (b2.ext x3) ?_
      refine go ?_
      refine y_ix x_1.left.toNat hA_4 ?_
      refine yNp (ox_stE (i := x_1.left.toNat) (off := 0) (vs := [(.int .i64 q)]) (b := (q : Int)) ints_len tS_3.h hA_4 rfl (v := (.int .i64 q)) rfl rfl rfl rfl (q14.ext x3) hx_8 rfl (by decide) (by omega) ?_)
      intro w8 e6 z5 o1
      refine go ?_
      refine y_add ?_
      have y1 : Chg (fun b => ((.slice A n c) : Value).ownBlock = some b) w w8 := (Chg.trans (Chg.ext (Chg.chg1 (Chg.ext (Chg.trans (Chg.refl (fun b => ((.slice A n c) : Value).ownBlock = some b) w) x1 (fun b hb hl => hb)) e1) e2 (.inr (by omega))) x3) e6 (fun b hb hl => hb))
      refine go ?_
      exact ⟨rfl, s.prods.length - (i + 1), by omega, i + 1, true, (h.set x_1.left.toNat q), by omega, (by omega), (hq.trans ((congrArg (fun z => stepS add most τ z h g) (SP.dp hx_2)).trans (stepS_yes (p := x_1.d) (n := q) hn_ (by show q < h[x_1.left.toNat]!; rw [bang_of hx_8]; omega)))), (fun v hv => by rcases List.mem_or_eq_of_mem_set hv with h9 | h9; exact hb v h9; (subst h9; have _q := hb _ (List.mem_of_getElem? hx_8); omega)), rfl, rfl, rfl, rfl, rfl, rfl, rfl, rfl, vW, rfl, o1, y1⟩
     ·
      refine go ?_
      refine y_add ?_
      have y2 : Chg (fun b => ((.slice A n c) : Value).ownBlock = some b) w w4 := (Chg.ext (Chg.chg1 (Chg.ext (Chg.trans (Chg.refl (fun b => ((.slice A n c) : Value).ownBlock = some b) w) x1 (fun b hb hl => hb)) e1) e2 (.inr (by omega))) x3)
      refine go ?_
      exact ⟨rfl, s.prods.length - (i + 1), by omega, i + 1, g, h, by omega, (by omega), (hq.trans ((congrArg (fun z => stepS add most τ z h g) (SP.dp hx_2)).trans (stepS_no (p := x_1.d) (n := q) hn_ (by show ¬ (q < h[x_1.left.toNat]!); rw [bang_of hx_8]; omega)))), hb, rfl, rfl, rfl, rfl, rfl, rfl, rfl, rfl, vW, rfl, (q14.ext x3), y2⟩
  ·
   refine go ?_
   refine y_r2 ?_
   have y3 : Chg (fun b => ((.slice A n c) : Value).ownBlock = some b) w w1 := (Chg.trans (Chg.refl (fun b => ((.slice A n c) : Value).ownBlock = some b) w) x1 (fun b hb hl => hb))
   exact ⟨by rw [hq, List.drop_of_length_le (by rw [s.gprods]; omega)] <;> rfl, by rw [hq, List.drop_of_length_le (by rw [s.gprods]; omega)]; exact o0_f1, y3⟩
theorem sums_calls (s : SP) (add most : Int) (τ : Sym → Int) (G : Nat) (CB : List Value) (w : World) (hS : SpR w s) (hG : GoodG s.g) (hadd : 0 ≤ add ∧ add ≤ 1073741824) (hmost : 0 ≤ most ∧ most ≤ 1073741824) (hp : plainF Tryz.prog G = true) (hτ : ∀ x, 0 ≤ τ x ∧ τ x ≤ 1073741824) (hg : ∀ x W, Calls Tryz.prog G ([Value.agg (Sym.cs x).toArray] ++ CB).toArray W (Ret fun v W' => v = .int .i64 (τ x) ∧ Ext W W')) :
    Calls Tryz.prog 92 #[(.agg #[(.slice s.lA s.lex.length s.lc), (.slice s.nA s.names.length s.nc), (.int .i64 s.start), (.slice s.pA s.prods.length s.pc)]), (.int .i64 add), (.int .i64 most), (.func (.func G) #[] CB.toArray)] w (Ret (fun v w' => ∃ A, v = .slice A s.names.length s.names.length ∧ Vx.Own w' 3 1 (.slice A s.names.length s.names.length) s.names.length ((sumsG add most τ s.g).flatMap ints) ∧ (∀ k, (Value.slice A s.names.length s.names.length).ownBlock = some k → w.heap.size ≤ k) ∧ Ext w w')) := by
 have hfn := hS.fn.le
 refine calls_y (n := 29) Tryz.func92 ?_
 refine go ?_
 refine y_bx ?_
 intro w1 e1 z1 b1
 refine y_bx ?_
 intro w2 e2 z2 b2
 refine y_bx ?_
 intro w3 e3 z3 b3
 refine y_bx ?_
 intro w4 e4 z4 b4
 refine go ?_
 refine y_ld (((b1.ext e2).ext e3).ext e4) ?_
 refine go ?_
 refine yOp (ox_makeD (n := s.names.length) (l := ((List.replicate s.names.length 0))) (cs := ints) tE_27.h rfl rfl (by omega) (by omega) (made_ints _) ?_)
 intro A1 w5 o1 e5 lo1
 have he5 := e5.size
 refine go ?_
 refine xc_loopN (fun m_ f_ Wx => ∃ (i : Nat) (h : List Int), m_ = s.names.length - i ∧ (i ≤ s.names.length) ∧ (h = List.replicate i (most + 1) ++ List.replicate (s.names.length - i) 0) ∧ f_ 4 = (.pointer (some ⟨w.heap.size, 0, none⟩)) ∧ f_ 5 = (.pointer (some ⟨w1.heap.size, 0, none⟩)) ∧ f_ 6 = (.pointer (some ⟨w2.heap.size, 0, none⟩)) ∧ f_ 7 = (.pointer (some ⟨w3.heap.size, 0, none⟩)) ∧ f_ 8 = (.slice none 0 0) ∧ f_ 9 = (.slice A1 s.names.length s.names.length) ∧ f_ 16 = (.int .i64 (((s.names.length : Nat) : Int))) ∧ f_ 17 = (.int .i64 ((i : Nat))) ∧ Vx.Own Wx 3 1 (.slice A1 s.names.length s.names.length) s.names.length (h.flatMap ints) ∧ Chg (fun b => ((.slice A1 s.names.length s.names.length) : Value).ownBlock = some b) w5 Wx) (s.names.length) ?_ ?_
 ·
  exact ⟨0, (List.replicate s.names.length 0), (by omega), (by omega), (by simp), rfl, rfl, rfl, rfl, rfl, rfl, rfl, vW, o1, (Chg.refl _ _)⟩
 ·
  rintro m_ f1 w6 ⟨i, h, hm_f1, hi, hq, g4_f1, g5_f1, g6_f1, g7_f1, g8_f1, g9_f1, g16_f1, g17_f1, o0_f1, x1⟩
  have hx1 := x1.size
  have hl_h : h.length = s.names.length := by have _q := (o0_f1).len; rw [fm_len ints_len] at _q; omega
  rw [← usf g4_f1, ← usf g5_f1, ← usf g6_f1, ← usf g7_f1, ← usf g8_f1, ← usf g9_f1, ← usf g16_f1, ← usf g17_f1]
  refine go ?_
  refine y_if (fun h1 => ?_) (fun h1 => ?_)
  ·
   have q1 := (((b3.ext e4).ext e5).keep x1 (fun _h => by have _q := lo1 _ _h; have _q2 := b3.lt; omega))
   refine go ?_
   refine y_ld q1 ?_
   refine y_add ?_
   obtain ⟨x_1, g_1, hx_1⟩ := own_may (A := A1) i ints_len (by decide) o0_f1
   obtain ⟨hx_2, hA_1, hc_1⟩ := hx_1 oM
   refine y_ix i hA_1 ?_
   refine yNp (ox_stE (i := i) (off := 0) (vs := [(.int .i64 (most + 1))]) (b := ((most + 1) : Int)) ints_len tS_3.h hA_1 rfl (v := (.int .i64 (most + 1))) rfl rfl rfl rfl o0_f1 hx_2 rfl (by decide) (by omega) ?_)
   intro w7 e6 z6 o2
   refine go ?_
   refine y_add ?_
   have y1 : Chg (fun b => ((.slice A1 s.names.length s.names.length) : Value).ownBlock = some b) w5 w7 := (Chg.trans (Chg.trans (Chg.refl (fun b => ((.slice A1 s.names.length s.names.length) : Value).ownBlock = some b) w5) x1 (fun b hb hl => hb)) e6 (fun b hb hl => hb))
   refine go ?_
   exact ⟨rfl, s.names.length - (i + 1), by omega, i + 1, (h.set i ((most + 1))), by omega, (by omega), (by rw [hq]; exact rep_next (by omega)), rfl, rfl, rfl, rfl, rfl, rfl, rfl, vW, o2, y1⟩
  ·
   refine go ?_
   refine yOp (ox_mkFunc (cs := [(.pointer (some ⟨w.heap.size, 0, none⟩)), (.pointer (some ⟨w1.heap.size, 0, none⟩)), (.pointer (some ⟨w3.heap.size, 0, none⟩)), (.pointer (some ⟨w2.heap.size, 0, none⟩))]) rfl ?_)
   have hrep : h = List.replicate s.names.length (most + 1) := by rw [hq, show i = s.names.length from (by omega)]; simp
   have q2 := (((((b1.ext e2).ext e3).ext e4).ext e5).keep x1 (fun _h => o1.ne_blk ((((b1.ext e2).ext e3).ext e4).ext e5) (by decide) _ _h rfl))
   have q3 := ((((b2.ext e3).ext e4).ext e5).keep x1 (fun _h => by have _q := lo1 _ _h; have _q2 := b2.lt; omega))
   have q4 := ((b4.ext e5).keep x1 (fun _h => o1.ne_blk (b4.ext e5) (by decide) _ _h rfl))
   have q5 := (((b3.ext e4).ext e5).keep x1 (fun _h => by have _q := lo1 _ _h; have _q2 := b3.lt; omega))
   have hoR := o0_f1
   rw [hrep] at hoR
   have x2 : Ext w w6 := (Chg.trans (Ext.trans (Ext.trans (Ext.trans (Ext.trans e1 e2) e3) e4) e5) x1 (fun b hb hl => (absurd hl (by have _h := lo1 b hb; omega))))
   refine yCa (ret_mono (fixedI s.names.length s.names.length A1 _ (fun h => stepS add most τ s.g.prods h false) sumN (fun h => h.length = s.names.length ∧ ∀ v ∈ h, 0 ≤ v ∧ v ≤ most + 1) 125 [(.pointer (some ⟨w.heap.size, 0, none⟩)), (.pointer (some ⟨w1.heap.size, 0, none⟩)), (.pointer (some ⟨w3.heap.size, 0, none⟩)), (.pointer (some ⟨w2.heap.size, 0, none⟩))] w6 hoR pf_125.h ⟨List.length_replicate, fun v hv => by rw [List.eq_of_mem_replicate hv]; omega⟩ (fun h hI hg => stepS_inv hG hadd hmost hτ hI hg) (fun h W hI hO' hc => sums1_calls s w.heap.size w1.heap.size w3.heap.size w2.heap.size s.names.length s.names.length A1 h add most τ G CB w W (q2.keep hc (fun _h => hoR.ne_blk q2 (by decide) _ _h rfl)) (q3.keep hc (fun _h => by have _a := lo1 _ _h; omega)) (q4.keep hc (fun _h => hoR.ne_blk q4 (by decide) _ _h rfl)) (q5.keep hc (fun _h => by have _a := lo1 _ _h; omega)) (Chg.trans x2 hc (fun b hb hl => absurd hl (by have _h := lo1 b hb; omega))) (fun k hk => by have _h := lo1 k hk; omega) hS hG rfl hO' hI.2 (fun k hk => by have _h := lo1 k hk; constructor <;> omega) hadd hmost hp hτ hg)) ?_)
   rintro _ w8 ⟨rfl, o3, y2⟩
   have hy2 := y2.size
   refine go ?_
   refine y_r1 ?_
   have x3 : Ext w w8 := (Chg.trans x2 y2 (fun b hb hl => (absurd hl (by have _h := lo1 b hb; omega))))
   exact ⟨A1, rfl, by have h9 := o3; exact h9, fun k hk => by have _h := lo1 k hk; omega, x3⟩
abbrev RS := (List Bool × List Bool) × Bool
def markR (x : Sym) (st : RS) : RS :=
  if x.kind = 1 then ((st.1.1, st.1.2.set x.n.toNat true), st.2 || !st.1.2[x.n.toNat]!)
  else if x.kind = 3 then ((st.1.1.set x.n.toNat true, st.1.2), st.2 || !st.1.1[x.n.toNat]!) else st
def rowR : List Sym → RS → RS
  | [], st => st
  | x :: r, st => rowR r (markR x st)
def stepR : List P2 → RS → RS
  | [], st => st
  | p :: r, st => if st.1.1[p.1.toNat]! = true then stepR r (rowR p.2 st) else stepR r st
theorem stepR_yes {p : P2} {r : List P2} {st : RS} (h : st.1.1[p.1.toNat]! = true) : stepR (p :: r) st = stepR r (rowR p.2 st) := by rw [stepR, if_pos h]
theorem stepR_no {p : P2} {r : List P2} {st : RS} (h : st.1.1[p.1.toNat]! = false) : stepR (p :: r) st = stepR r st := by rw [stepR, if_neg (by rw [h]; decide)]
theorem rowR_next {l : List Sym} {k : Nat} {y : Sym} {st st' : RS} (hy : l[k]? = some y) (h : markR y st = st') : rowR (l.drop k) st = rowR (l.drop (k + 1)) st' := by rw [drop_get hy, rowR, h]
theorem markR_term {x : Sym} {a b : List Bool} {g y : Bool} (hk : x.kind = 1) (hy : b[x.n.toNat]! = y) : markR x ((a, b), g) = ((a, b.set x.n.toNat true), g || !y) := by unfold markR; rw [if_pos hk]; simp only [hy]
theorem markR_name {x : Sym} {a b : List Bool} {g y : Bool} (hk : x.kind = 3) (hy : a[x.n.toNat]! = y) : markR x ((a, b), g) = ((a.set x.n.toNat true, b), g || !y) := by unfold markR; rw [if_neg (by omega), if_pos hk]; simp only [hy]
theorem markR_else {x : Sym} {st : RS} (h1 : ¬ (x.kind = 1)) (h3 : ¬ (x.kind = 3)) : markR x st = st := by unfold markR; rw [if_neg h1, if_neg h3]
instance tA_163 : AggT Tryz.prog 163 := ⟨by kernel_rfl⟩
instance tF_163_0 : FdT Tryz.prog 163 0 0 := ⟨by kernel_rfl⟩
instance tF_163_1 : FdT Tryz.prog 163 1 1 := ⟨by kernel_rfl⟩
instance tS_163 : SzT Tryz.prog 163 2 := ⟨by kernel_rfl⟩
instance tZ_163 : ZrT Tryz.prog 163 (.agg #[(.slice none 0 0), (.slice none 0 0)]) := ⟨by kernel_rfl⟩
theorem reached1_calls (s : SP) (bs n c m d : Nat) (A B : Option Addr) (a0 b0 : List Bool) (w0 : World) (w : World) (hbs : Blk w bs #[(.slice s.lA s.lex.length s.lc), (.slice s.nA s.names.length s.nc), (.int .i64 s.start), (.slice s.pA s.prods.length s.pc)] 26) (hE0 : Ext w0 w) (hloA : ∀ k, (Value.slice A n c).ownBlock = some k → w0.heap.size ≤ k) (hloB : ∀ k, (Value.slice B m d).ownBlock = some k → w0.heap.size ≤ k) (hne : ∀ k, (Value.slice A n c).ownBlock = some k → (Value.slice B m d).ownBlock = some k → False) (hS : SpR w0 s) (hG : GoodG s.g) (hn : n = s.names.length) (hm : m = s.lex.length) (hA : Vx.Own w 4 1 (.slice A n c) n (a0.flatMap bools)) (hB : Vx.Own w 4 1 (.slice B m d) m (b0.flatMap bools)) :
    Calls Tryz.prog 119 #[(.agg #[(.slice A n c), (.slice B m d)]), (.pointer (some ⟨bs, 0, none⟩))] w (Ret (fun v w' => v = .tuple #[.agg #[.slice A n c, .slice B m d], .bool (stepR s.g.prods ((a0, b0), false)).2] ∧ Vx.Own w' 4 1 (.slice A n c) n (((stepR s.g.prods ((a0, b0), false)).1.1).flatMap bools) ∧ Vx.Own w' 4 1 (.slice B m d) m (((stepR s.g.prods ((a0, b0), false)).1.2).flatMap bools) ∧ Chg (fun b => (Value.slice A n c).ownBlock = some b ∨ (Value.slice B m d).ownBlock = some b) w w')) := by
 have hfp := hS.fp.le; have hfn := hS.fn.le; have hfl := hS.fl.le
 have hsz0_ := hE0.size
 refine calls_y (n := 61) Tryz.func119 ?_
 refine go ?_
 refine y_bx ?_
 intro w1 e1 z1 b1
 refine y_al ?_
 intro w2 e2 z2 b2
 refine go ?_
 refine y_ld ((hbs.ext e1).ext e2) ?_
 refine go ?_
 refine xc_loopN (fun m_ f_ Wx => ∃ (i : Nat) (g : Bool) (a : List Bool) (b : List Bool), m_ = s.prods.length - i ∧ (i ≤ s.prods.length) ∧ (stepR s.g.prods ((a0, b0), false) = stepR (s.g.prods.drop i) ((a, b), g)) ∧ f_ 2 = (.pointer (some ⟨w.heap.size, 0, none⟩)) ∧ f_ 3 = (.pointer (some ⟨w1.heap.size, 0, none⟩)) ∧ f_ 4 = (.bool false) ∧ f_ 12 = (.slice s.pA s.prods.length s.pc) ∧ f_ 13 = (.int .i64 (((s.prods.length : Nat) : Int))) ∧ f_ 14 = (.int .i64 ((i : Nat))) ∧ f_ 5 = (.bool g) ∧ Vx.Own Wx 4 1 (.slice A n c) n (a.flatMap bools) ∧ Vx.Own Wx 4 1 (.slice B m d) m (b.flatMap bools) ∧ Chg (fun b => ((.slice A n c) : Value).ownBlock = some b ∨ ((.slice B m d) : Value).ownBlock = some b) w2 Wx) (s.prods.length) ?_ ?_
 ·
  exact ⟨0, false, a0, b0, (by omega), (by omega), rfl, rfl, rfl, rfl, rfl, rfl, vW, rfl, ((hA.ext e1).ext e2), ((hB.ext e1).ext e2), (Chg.refl _ _)⟩
 ·
  rintro m_ f1 w3 ⟨i, g, a, b, hm_f1, hi, hq, g2_f1, g3_f1, g4_f1, g12_f1, g13_f1, g14_f1, g5_f1, o0_f1, o1_f1, x1⟩
  have hx1 := x1.size
  have hl_a : a.length = n := by have _q := (o0_f1).len; rw [fm_len bools_len] at _q; omega
  have hl_b : b.length = m := by have _q := (o1_f1).len; rw [fm_len bools_len] at _q; omega
  rw [← usf g2_f1, ← usf g3_f1, ← usf g4_f1, ← usf g12_f1, ← usf g13_f1, ← usf g14_f1, ← usf g5_f1]
  refine go ?_
  refine y_if (fun h1 => ?_) (fun h1 => ?_)
  ·
   have x2 : Ext w0 w3 := (Chg.trans (Ext.trans (Ext.trans hE0 e1) e2) x1 (fun b hb hl => hb.elim (fun hb => (absurd hl (by have _h := hloA b hb; omega))) (fun hb => (absurd hl (by have _h := hloB b hb; omega)))))
   obtain ⟨x_1, g_1, o_1, hx_1⟩ := row_may (A := s.pA) (cs := PD.cs) i PD.len (by decide) (RowA.ext hS.prods x2)
   obtain ⟨hx_2, hA_1, hc_1⟩ := hx_1 oM
   have hfr_x_1 := (hS.fr _ (List.mem_of_getElem? hx_2)).le
   have hgd_x_1 := hG.2 _ (List.mem_of_getElem? (map_get (f := PD.d) hx_2))
   have hgl_x_1 : 0 ≤ x_1.left ∧ x_1.left < (s.names.length : Int) := ⟨hgd_x_1.1, hgd_x_1.2.1⟩
   refine go ?_
   refine y_ix i hA_1 ?_
   refine y_lN (vs := [(.int .i64 x_1.left), (.slice x_1.rA x_1.right.length x_1.rc)]) hc_1 ?_
   refine y_al ?_
   intro w4 e3 z3 b3
   refine y_st b3 ?_
   intro w5 e4 z4 b4
   replace b4 : Blk w5 w3.heap.size #[(.int .i64 x_1.left), (.slice x_1.rA x_1.right.length x_1.rc)] 37 := blk_full b4 rfl
   have q1 := ((b1.ext e2).keep x1 (fun hb => hb.elim (fun _h => ((hA.ext e1).ext e2).ne_blk (b1.ext e2) (by decide) _ _h rfl) (fun _h => ((hB.ext e1).ext e2).ne_blk (b1.ext e2) (by decide) _ _h rfl)))
   have q2 := ((q1.ext e3).keep1 e4 ((q1.ext e3).ne b3 (by decide)))
   refine go ?_
   refine y_ld q2 ?_
   refine go ?_
   refine y_ld b4 ?_
   have q3 := ((o0_f1.ext e3).keep1 e4 (fun k hk => (o0_f1.ext e3).ne_blk b3 (by decide) k hk))
   obtain ⟨x_2, g_2, hx_3⟩ := own_may (A := A) x_1.left.toNat bools_len (by decide) q3
   obtain ⟨hx_4, hA_2, hc_2⟩ := hx_3 oM
   refine y_ix x_1.left.toNat hA_2 ?_
   refine y_lc (CellsL.at1 hc_2 0 rfl) ?_
   refine go ?_
   refine xc_cond (b := (!x_2)) rfl (fun h2 => ?_) (fun h2 => ?_)
   ·
    have h2' := bS h2
    have hy_ : x_2 = false := by simpa using h2
    refine go ?_
    refine y_add ?_
    have q4 := ((o1_f1.ext e3).keep1 e4 (fun k hk => (o1_f1.ext e3).ne_blk b3 (by decide) k hk))
    have y1 : Chg (fun b => ((.slice A n c) : Value).ownBlock = some b ∨ ((.slice B m d) : Value).ownBlock = some b) w2 w5 := (Chg.chg1 (Chg.ext (Chg.trans (Chg.refl (fun b => ((.slice A n c) : Value).ownBlock = some b ∨ ((.slice B m d) : Value).ownBlock = some b) w2) x1 (fun b hb hl => hb)) e3) e4 (.inr (by omega)))
    refine go ?_
    exact ⟨rfl, s.prods.length - (i + 1), by omega, i + 1, g, a, b, by omega, (by omega), (hq.trans ((congrArg (fun z => stepR z ((a, b), g)) (SP.dp hx_2)).trans (stepR_no (p := x_1.d) (by show a[x_1.left.toNat]! = false; rw [bang_of hx_4]; exact hy_)))), rfl, rfl, rfl, rfl, rfl, vW, rfl, q3, q4, y1⟩
   ·
    have h2' := bS h2
    have hy_ : x_2 = true := by simpa using h2
    refine go ?_
    refine y_ld b4 ?_
    have q5 := ((o1_f1.ext e3).keep1 e4 (fun k hk => (o1_f1.ext e3).ne_blk b3 (by decide) k hk))
    refine go ?_
    refine xc_loopN (fun m_ f_ Wx => ∃ (k : Nat) (g' : Bool) (a' : List Bool) (b' : List Bool), m_ = x_1.right.length - k ∧ (k ≤ x_1.right.length) ∧ (rowR x_1.right ((a, b), g) = rowR (x_1.right.drop k) ((a', b'), g')) ∧ f_ 2 = (.pointer (some ⟨w.heap.size, 0, none⟩)) ∧ f_ 3 = (.pointer (some ⟨w1.heap.size, 0, none⟩)) ∧ f_ 4 = (.bool false) ∧ f_ 12 = (.slice s.pA s.prods.length s.pc) ∧ f_ 13 = (.int .i64 (((s.prods.length : Nat) : Int))) ∧ f_ 14 = (.int .i64 ((i : Nat))) ∧ f_ 15 = (.bool (decide (((i : Nat) : Int) < (((s.prods.length : Nat) : Int))))) ∧ f_ 16 = (.pointer (some ⟨g_1, o_1 + i * 2, none⟩)) ∧ f_ 17 = (.agg #[(.int .i64 x_1.left), (.slice x_1.rA x_1.right.length x_1.rc)]) ∧ f_ 7 = (.pointer (some ⟨w3.heap.size, 0, none⟩)) ∧ f_ 18 = (.pointer (some ⟨w.heap.size, 0, none⟩)) ∧ f_ 19 = (.slice A n c) ∧ f_ 20 = (.pointer (some ⟨w3.heap.size, 0, none⟩)) ∧ f_ 21 = (.int .i64 x_1.left) ∧ f_ 22 = (.pointer (some ⟨g_2, 0 + x_1.left.toNat * 1, none⟩)) ∧ f_ 23 = (.bool x_2) ∧ f_ 24 = (.bool (!x_2)) ∧ f_ 25 = (.pointer (some ⟨w3.heap.size, 1, none⟩)) ∧ f_ 26 = (.slice x_1.rA x_1.right.length x_1.rc) ∧ f_ 27 = (.int .i64 (((x_1.right.length : Nat) : Int))) ∧ f_ 28 = (.int .i64 ((k : Nat))) ∧ f_ 5 = (.bool g') ∧ Vx.Own Wx 4 1 (.slice A n c) n (a'.flatMap bools) ∧ Vx.Own Wx 4 1 (.slice B m d) m (b'.flatMap bools) ∧ Chg (fun b => ((.slice A n c) : Value).ownBlock = some b ∨ ((.slice B m d) : Value).ownBlock = some b) w5 Wx) (x_1.right.length) ?_ ?_
    ·
     exact ⟨0, g, a, b, (by omega), (by omega), rfl, rfl, rfl, rfl, rfl, rfl, rfl, rfl, rfl, rfl, rfl, rfl, rfl, rfl, rfl, rfl, rfl, rfl, rfl, rfl, rfl, vW, rfl, q3, q5, (Chg.refl _ _)⟩
    ·
     rintro m_ f2 w6 ⟨k, g', a', b', hm_f2, hk, hk2, g2_f2, g3_f2, g4_f2, g12_f2, g13_f2, g14_f2, g15_f2, g16_f2, g17_f2, g7_f2, g18_f2, g19_f2, g20_f2, g21_f2, g22_f2, g23_f2, g24_f2, g25_f2, g26_f2, g27_f2, g28_f2, g5_f2, o0_f2, o1_f2, x3⟩
     have hx3 := x3.size
     have hl_a' : a'.length = n := by have _q := (o0_f2).len; rw [fm_len bools_len] at _q; omega
     have hl_b' : b'.length = m := by have _q := (o1_f2).len; rw [fm_len bools_len] at _q; omega
     rw [← usf g2_f2, ← usf g3_f2, ← usf g4_f2, ← usf g12_f2, ← usf g13_f2, ← usf g14_f2, ← usf g15_f2, ← usf g16_f2, ← usf g17_f2, ← usf g7_f2, ← usf g18_f2, ← usf g19_f2, ← usf g20_f2, ← usf g21_f2, ← usf g22_f2, ← usf g23_f2, ← usf g24_f2, ← usf g25_f2, ← usf g26_f2, ← usf g27_f2, ← usf g28_f2, ← usf g5_f2]
     refine go ?_
     refine y_if (fun h3 => ?_) (fun h3 => ?_)
     ·
      have x4 : Ext w0 w6 := (Chg.trans (Ext.chg1 (Ext.trans x2 e3) e4 (by omega)) x3 (fun b hb hl => hb.elim (fun hb => (absurd hl (by have _h := hloA b hb; omega))) (fun hb => (absurd hl (by have _h := hloB b hb; omega)))))
      obtain ⟨x_3, g_3, o_3, hx_5⟩ := row_may (A := x_1.rA) (cs := Sym.cs) k Sym.len (by decide) (RowA.ext ((hS.right _ (List.mem_of_getElem? hx_2))) x4)
      obtain ⟨hx_6, hA_3, hc_3⟩ := hx_5 oM
      refine go ?_
      refine y_ix k hA_3 ?_
      refine y_lN (vs := [(.int .i64 x_3.kind), (.int .i64 x_3.n)]) hc_3 ?_
      refine y_al ?_
      intro w7 e5 z5 b5
      refine y_st b5 ?_
      intro w8 e6 z6 b6
      replace b6 : Blk w8 w6.heap.size #[(.int .i64 x_3.kind), (.int .i64 x_3.n)] 32 := blk_full b6 rfl
      refine go ?_
      refine y_ld b6 ?_
      refine go ?_
      refine y_if (fun h4 => ?_) (fun h4 => ?_)
      ·
       have hsy_ := hgd_x_1.2.2 x_3 (List.mem_of_getElem? hx_6)
       have hst_ := (symE_term hsy_ (by omega)).1; have hgl_ := s.glex
       have q6 := (q2.keep x3 (fun hb => hb.elim (fun _h => q3.ne_blk q2 (by decide) _ _h rfl) (fun _h => q5.ne_blk q2 (by decide) _ _h rfl)))
       have q7 := ((q6.ext e5).keep1 e6 ((q6.ext e5).ne b5 (by decide)))
       refine go ?_
       refine y_ld q7 ?_
       refine go ?_
       refine y_ld b6 ?_
       have q8 := ((o1_f2.ext e5).keep1 e6 (fun k hk => (o1_f2.ext e5).ne_blk b5 (by decide) k hk))
       obtain ⟨x_4, g_4, hx_7⟩ := own_may (A := B) x_3.n.toNat bools_len (by decide) q8
       obtain ⟨hx_8, hA_4, hc_4⟩ := hx_7 oM
       refine y_ix x_3.n.toNat hA_4 ?_
       refine go ?_
       refine xl_may (P := Tryz.prog) (some 50) (j := 1) (b := false) (g' = false) (.bool g') (.pointer (some ⟨g_4, 0 + x_3.n.toNat * 1, none⟩)) rfl rfl rfl (may_b g' false) (fun hp => ox_move (v := (.pointer (some ⟨g_4, 0 + x_3.n.toNat * 1, none⟩))) rfl ⟨rfl, rfl⟩) ?_
       refine xl_may (P := Tryz.prog) (some 51) (j := 1) (b := false) (g' = false) (.bool g') (.pointer (some ⟨g_4, 0 + x_3.n.toNat * 1, none⟩)) rfl rfl rfl (may_b g' false) (fun hp => ox_nilCheck (p := ⟨g_4, 0 + x_3.n.toNat * 1, none⟩) (if_pos (α := Value) (t := (.pointer (some ⟨g_4, 0 + x_3.n.toNat * 1, none⟩))) (e := undef) hp) ⟨rfl, rfl⟩) ?_
       refine xl_may (P := Tryz.prog) (some 52) (j := 1) (b := false) (g' = false) (.bool g') (.bool x_4) rfl rfl rfl (may_b g' false) (fun hp => ox_load (v := (.bool x_4)) tA_4.h (if_pos (α := Value) (t := (.pointer (some ⟨g_4, 0 + x_3.n.toNat * 1, none⟩))) (e := undef) hp) (CellsL.at1 hc_4 0 rfl) ⟨rfl, rfl⟩) ?_
       refine xl_may (P := Tryz.prog) (some 53) (j := 1) (b := false) (g' = false) (.bool g') (.bool (!x_4)) rfl rfl rfl (may_b g' false) (fun hp => ox_not (b := x_4) (if_pos (α := Value) (t := (.bool x_4)) (e := undef) hp) ⟨rfl, rfl⟩) ?_
       refine yOp (ox_pick_or (a := g') (b := ((!x_4))) rfl rfl (fun ha => (if_pos (α := Value) (t := (.bool (!x_4))) (e := undef) ha)) ?_)
       refine go ?_
       refine yNp (ox_stE (i := x_3.n.toNat) (off := 0) (vs := [(.bool true)]) (b := (true : Bool)) bools_len tS_4.h hA_4 rfl (v := (.bool true)) rfl rfl rfl rfl q8 hx_8 rfl (by decide) (by omega) ?_)
       intro w9 e7 z7 o1
       refine go ?_
       refine y_add ?_
       have q9 := ((o0_f2.ext e5).keep1 e6 (fun k hk => (o0_f2.ext e5).ne_blk b5 (by decide) k hk))
       have q10 := (q9.keep e7 (fun _k _hk _hh => hne _k _hk _hh))
       have y2 : Chg (fun b => ((.slice A n c) : Value).ownBlock = some b ∨ ((.slice B m d) : Value).ownBlock = some b) w5 w9 := (Chg.trans (Chg.chg1 (Chg.ext (Chg.trans (Chg.refl (fun b => ((.slice A n c) : Value).ownBlock = some b ∨ ((.slice B m d) : Value).ownBlock = some b) w5) x3 (fun b hb hl => hb)) e5) e6 (.inr (by omega))) e7 (fun b hb hl => .inr hb))
       refine go ?_
       exact ⟨rfl, x_1.right.length - (k + 1), by omega, k + 1, ((g' || ((!x_4)))), a', (b'.set x_3.n.toNat true), by omega, (by omega), (hk2.trans (rowR_next hx_6 (markR_term (by omega) (bang_of hx_8)))), rfl, rfl, rfl, rfl, rfl, rfl, rfl, rfl, rfl, rfl, rfl, rfl, rfl, rfl, rfl, rfl, rfl, rfl, rfl, rfl, vW, rfl, q10, o1, y2⟩
      ·
       have hsy_ := hgd_x_1.2.2 x_3 (List.mem_of_getElem? hx_6)
       refine go ?_
       refine y_if (fun h5 => ?_) (fun h5 => ?_)
       ·
        have hsn_ := symE_name hsy_ (by omega); have hgn : s.g.names = s.names.length := rfl
        have q11 := (q2.keep x3 (fun hb => hb.elim (fun _h => q3.ne_blk q2 (by decide) _ _h rfl) (fun _h => q5.ne_blk q2 (by decide) _ _h rfl)))
        have q12 := ((q11.ext e5).keep1 e6 ((q11.ext e5).ne b5 (by decide)))
        refine go ?_
        refine y_ld q12 ?_
        refine go ?_
        refine y_ld b6 ?_
        have q13 := ((o0_f2.ext e5).keep1 e6 (fun k hk => (o0_f2.ext e5).ne_blk b5 (by decide) k hk))
        obtain ⟨x_5, g_5, hx_9⟩ := own_may (A := A) x_3.n.toNat bools_len (by decide) q13
        obtain ⟨hx_10, hA_5, hc_5⟩ := hx_9 oM
        refine y_ix x_3.n.toNat hA_5 ?_
        refine go ?_
        refine xl_may (P := Tryz.prog) (some 50) (j := 1) (b := false) (g' = false) (.bool g') (.pointer (some ⟨g_5, 0 + x_3.n.toNat * 1, none⟩)) rfl rfl rfl (may_b g' false) (fun hp => ox_move (v := (.pointer (some ⟨g_5, 0 + x_3.n.toNat * 1, none⟩))) rfl ⟨rfl, rfl⟩) ?_
        refine xl_may (P := Tryz.prog) (some 51) (j := 1) (b := false) (g' = false) (.bool g') (.pointer (some ⟨g_5, 0 + x_3.n.toNat * 1, none⟩)) rfl rfl rfl (may_b g' false) (fun hp => ox_nilCheck (p := ⟨g_5, 0 + x_3.n.toNat * 1, none⟩) (if_pos (α := Value) (t := (.pointer (some ⟨g_5, 0 + x_3.n.toNat * 1, none⟩))) (e := undef) hp) ⟨rfl, rfl⟩) ?_
        refine xl_may (P := Tryz.prog) (some 52) (j := 1) (b := false) (g' = false) (.bool g') (.bool x_5) rfl rfl rfl (may_b g' false) (fun hp => ox_load (v := (.bool x_5)) tA_4.h (if_pos (α := Value) (t := (.pointer (some ⟨g_5, 0 + x_3.n.toNat * 1, none⟩))) (e := undef) hp) (CellsL.at1 hc_5 0 rfl) ⟨rfl, rfl⟩) ?_
        refine xl_may (P := Tryz.prog) (some 53) (j := 1) (b := false) (g' = false) (.bool g') (.bool (!x_5)) rfl rfl rfl (may_b g' false) (fun hp => ox_not (b := x_5) (if_pos (α := Value) (t := (.bool x_5)) (e := undef) hp) ⟨rfl, rfl⟩) ?_
        refine yOp (ox_pick_or (a := g') (b := ((!x_5))) rfl rfl (fun ha => (if_pos (α := Value) (t := (.bool (!x_5))) (e := undef) ha)) ?_)
        refine go ?_
        refine yNp (ox_stE (i := x_3.n.toNat) (off := 0) (vs := [(.bool true)]) (b := (true : Bool)) bools_len tS_4.h hA_5 rfl (v := (.bool true)) rfl rfl rfl rfl q13 hx_10 rfl (by decide) (by omega) ?_)
        intro w10 e8 z8 o2
        refine go ?_
        refine y_add ?_
        have q14 := ((o1_f2.ext e5).keep1 e6 (fun k hk => (o1_f2.ext e5).ne_blk b5 (by decide) k hk))
        have q15 := (q14.keep e8 (fun _k _hk _hh => hne _k _hh _hk))
        have y3 : Chg (fun b => ((.slice A n c) : Value).ownBlock = some b ∨ ((.slice B m d) : Value).ownBlock = some b) w5 w10 := (Chg.trans (Chg.chg1 (Chg.ext (Chg.trans (Chg.refl (fun b => ((.slice A n c) : Value).ownBlock = some b ∨ ((.slice B m d) : Value).ownBlock = some b) w5) x3 (fun b hb hl => hb)) e5) e6 (.inr (by omega))) e8 (fun b hb hl => .inl hb))
        refine go ?_
        exact ⟨rfl, x_1.right.length - (k + 1), by omega, k + 1, ((g' || ((!x_5)))), (a'.set x_3.n.toNat true), b', by omega, (by omega), (hk2.trans (rowR_next hx_6 (markR_name (by omega) (bang_of hx_10)))), rfl, rfl, rfl, rfl, rfl, rfl, rfl, rfl, rfl, rfl, rfl, rfl, rfl, rfl, rfl, rfl, rfl, rfl, rfl, rfl, vW, rfl, o2, q15, y3⟩
       ·
        refine go ?_
        refine y_add ?_
        have q16 := ((o0_f2.ext e5).keep1 e6 (fun k hk => (o0_f2.ext e5).ne_blk b5 (by decide) k hk))
        have q17 := ((o1_f2.ext e5).keep1 e6 (fun k hk => (o1_f2.ext e5).ne_blk b5 (by decide) k hk))
        have y4 : Chg (fun b => ((.slice A n c) : Value).ownBlock = some b ∨ ((.slice B m d) : Value).ownBlock = some b) w5 w8 := (Chg.chg1 (Chg.ext (Chg.trans (Chg.refl (fun b => ((.slice A n c) : Value).ownBlock = some b ∨ ((.slice B m d) : Value).ownBlock = some b) w5) x3 (fun b hb hl => hb)) e5) e6 (.inr (by omega)))
        refine go ?_
        exact ⟨rfl, x_1.right.length - (k + 1), by omega, k + 1, g', a', b', by omega, (by omega), (hk2.trans (rowR_next hx_6 (markR_else (by omega) (by omega)))), rfl, rfl, rfl, rfl, rfl, rfl, rfl, rfl, rfl, rfl, rfl, rfl, rfl, rfl, rfl, rfl, rfl, rfl, rfl, rfl, vW, rfl, q16, q17, y4⟩
     ·
      refine go ?_
      refine y_add ?_
      have y5 : Chg (fun b => ((.slice A n c) : Value).ownBlock = some b ∨ ((.slice B m d) : Value).ownBlock = some b) w2 w6 := (Chg.trans (Chg.chg1 (Chg.ext (Chg.trans (Chg.refl (fun b => ((.slice A n c) : Value).ownBlock = some b ∨ ((.slice B m d) : Value).ownBlock = some b) w2) x1 (fun b hb hl => hb)) e3) e4 (.inr (by omega))) x3 (fun b hb hl => hb))
      refine go ?_
      exact ⟨rfl, s.prods.length - (i + 1), by omega, i + 1, g', a', b', by omega, (by omega), (hq.trans ((congrArg (fun z => stepR z ((a, b), g)) (SP.dp hx_2)).trans ((stepR_yes (p := x_1.d) (by show a[x_1.left.toNat]! = true; rw [bang_of hx_4]; exact hy_)).trans (congrArg (stepR _) (show rowR x_1.right ((a, b), g) = ((a', b'), g') by rw [hk2, List.drop_of_length_le (by omega)] <;> rfl))))), rfl, rfl, rfl, rfl, rfl, vW, rfl, o0_f2, o1_f2, y5⟩
  ·
   have q18 := ((b1.ext e2).keep x1 (fun hb => hb.elim (fun _h => ((hA.ext e1).ext e2).ne_blk (b1.ext e2) (by decide) _ _h rfl) (fun _h => ((hB.ext e1).ext e2).ne_blk (b1.ext e2) (by decide) _ _h rfl)))
   refine go ?_
   refine y_lN (vs := [(.slice A n c), (.slice B m d)]) ⟨q18.cell rfl, q18.cell rfl, trivial⟩ ?_
   have q19 := (b2.keep x1 (fun hb => hb.elim (fun _h => ((hA.ext e1).ext e2).ne_blk b2 (by decide) _ _h rfl) (fun _h => ((hB.ext e1).ext e2).ne_blk b2 (by decide) _ _h rfl)))
   refine go ?_
   refine y_st q19 ?_
   intro w11 e9 z9 b7
   replace b7 : Blk w11 w1.heap.size #[(.slice A n c), (.slice B m d)] 163 := blk_full b7 rfl
   refine go ?_
   change leaves _ _ _ _ _ _ _
   refine leaves_nil (n := 61) (rs := [.cell 3 163, .tmp 4]) (vs := [(.agg #[(.slice A n c), (.slice B m d)]), (.bool g)]) rfl ⟨⟨by decide, w1.heap.size, 0, 2, [(.slice A n c), (.slice B m d)], rfl, tA_163.h, tS_163.h, rfl, ⟨b7.cell rfl, b7.cell rfl, trivial⟩, rfl⟩, ⟨by decide, rfl⟩, trivial⟩ ?_
   have q20 := (o0_f1.keep1 e9 (fun k hk => o0_f1.ne_blk q19 (by decide) k hk))
   have q21 := (o1_f1.keep1 e9 (fun k hk => o1_f1.ne_blk q19 (by decide) k hk))
   have y6 : Chg (fun b => ((.slice A n c) : Value).ownBlock = some b ∨ ((.slice B m d) : Value).ownBlock = some b) w w11 := (Chg.chg1 (Chg.trans (Chg.ext (Chg.ext (Chg.refl (fun b => ((.slice A n c) : Value).ownBlock = some b ∨ ((.slice B m d) : Value).ownBlock = some b) w) e1) e2) x1 (fun b hb hl => hb)) e9 (.inr (by omega)))
   exact ⟨by rw [hq, List.drop_of_length_le (by rw [s.gprods]; omega)] <;> rfl, by rw [hq, List.drop_of_length_le (by rw [s.gprods]; omega)]; exact q20, by rw [hq, List.drop_of_length_le (by rw [s.gprods]; omega)]; exact q21, y6⟩
theorem fixedR (n c m d : Nat) (A B : Option Addr) (a0 b0 : List Bool) (f : List Bool × List Bool → (List Bool × List Bool) × Bool) (μ : List Bool × List Bool → Nat) (Inv : List Bool × List Bool → Prop) (G : Nat) (CB : List Value) (w : World) (hne : ∀ k, (Value.slice A n c).ownBlock = some k → (Value.slice B m d).ownBlock = some k → False) (hA : Vx.Own w 4 1 (.slice A n c) n (a0.flatMap bools)) (hB : Vx.Own w 4 1 (.slice B m d) m (b0.flatMap bools)) (hp : plainF Tryz.prog G = true) (hI0 : Inv (a0, b0)) (hm : ∀ h, Inv h → (f h).2 = true → Inv (f h).1 ∧ μ (f h).1 < μ h) (hf : ∀ (h : List Bool × List Bool) (W : World), Inv h → Vx.Own W 4 1 (.slice A n c) n (h.1.flatMap bools) → Vx.Own W 4 1 (.slice B m d) m (h.2.flatMap bools) → Chg (fun b => (Value.slice A n c).ownBlock = some b ∨ (Value.slice B m d).ownBlock = some b) w W → Calls Tryz.prog G ([Value.agg #[.slice A n c, .slice B m d]] ++ CB).toArray W (Ret fun v W' => v = .tuple #[.agg #[.slice A n c, .slice B m d], .bool (f h).2] ∧ Vx.Own W' 4 1 (.slice A n c) n (((f h).1.1).flatMap bools) ∧ Vx.Own W' 4 1 (.slice B m d) m (((f h).1.2).flatMap bools) ∧ Chg (fun b => (Value.slice A n c).ownBlock = some b ∨ (Value.slice B m d).ownBlock = some b) W W')) :
    Calls Tryz.prog 118 #[(.agg #[(.slice A n c), (.slice B m d)]), (.func (.func G) #[] CB.toArray)] w (Ret (fun v w' => v = .agg #[.slice A n c, .slice B m d] ∧ Vx.Own w' 4 1 (.slice A n c) n (((fixN f (μ (a0, b0) + 1) (a0, b0)).1).flatMap bools) ∧ Vx.Own w' 4 1 (.slice B m d) m (((fixN f (μ (a0, b0) + 1) (a0, b0)).2).flatMap bools) ∧ Chg (fun b => (Value.slice A n c).ownBlock = some b ∨ (Value.slice B m d).ownBlock = some b) w w')) := by
 refine calls_y (n := 17) Tryz.func118 ?_
 refine go ?_
 refine y_bx ?_
 intro w1 e1 z1 b1
 refine y_al ?_
 intro w2 e2 z2 b2
 have y1 : Chg (fun b => ((.slice A n c) : Value).ownBlock = some b ∨ ((.slice B m d) : Value).ownBlock = some b) w w2 := (Chg.ext (Chg.ext (Chg.refl (fun b => ((.slice A n c) : Value).ownBlock = some b ∨ ((.slice B m d) : Value).ownBlock = some b) w) e1) e2)
 refine go ?_
 refine xc_loopN (fun m_ f_ Wx => ∃ (a : List Bool) (b : List Bool), m_ = μ (a, b) ∧ (Inv (a, b)) ∧ (fixN f (μ (a0, b0) + 1) (a0, b0) = fixN f (μ (a, b) + 1) (a, b)) ∧ f_ 1 = (.func (.func G) #[] CB.toArray) ∧ f_ 2 = (.pointer (some ⟨w.heap.size, 0, none⟩)) ∧ f_ 4 = (.pointer (some ⟨w1.heap.size, 0, none⟩)) ∧ Vx.Own Wx 4 1 (.slice A n c) n (a.flatMap bools) ∧ Vx.Own Wx 4 1 (.slice B m d) m (b.flatMap bools) ∧ Blk Wx w.heap.size #[(.slice A n c), (.slice B m d)] 163 ∧ Blk Wx w1.heap.size #[(.slice none 0 0), (.slice none 0 0)] 163 ∧ Chg (fun b => ((.slice A n c) : Value).ownBlock = some b ∨ ((.slice B m d) : Value).ownBlock = some b) w Wx) (μ (a0, b0)) ?_ ?_
 ·
  exact ⟨a0, b0, (by omega), hI0, rfl, rfl, rfl, rfl, ((hA.ext e1).ext e2), ((hB.ext e1).ext e2), (b1.ext e2), b2, y1⟩
 ·
  rintro m_ f1 w3 ⟨a, b, hm_f1, hI, hq, g1_f1, g2_f1, g4_f1, o0_f1, o1_f1, c0_f1, c1_f1, x1⟩
  have hx1 := x1.size
  have hl_a : a.length = n := by have _q := (o0_f1).len; rw [fm_len bools_len] at _q; omega
  have hl_b : b.length = m := by have _q := (o1_f1).len; rw [fm_len bools_len] at _q; omega
  rw [← usf g1_f1, ← usf g2_f1, ← usf g4_f1]
  refine go ?_
  refine y_lN (vs := [(.slice A n c), (.slice B m d)]) ⟨c0_f1.cell rfl, c0_f1.cell rfl, trivial⟩ ?_
  have y2 : Chg (fun b => ((.slice A n c) : Value).ownBlock = some b ∨ ((.slice B m d) : Value).ownBlock = some b) w w3 := (Chg.trans (Chg.refl (fun b => ((.slice A n c) : Value).ownBlock = some b ∨ ((.slice B m d) : Value).ownBlock = some b) w) x1 (fun b hb hl => hb))
  refine yOp (ox_callV (cap := CB) (al := [(.agg #[(.slice A n c), (.slice B m d)])]) hp rfl rfl (ret_mono (hf (a, b) w3 hI o0_f1 o1_f1 y2) ?_))
  rintro _ w4 ⟨rfl, o1, o2, e3⟩
  have he3 := e3.size
  refine go ?_
  refine y_al ?_
  intro w5 e4 z3 b3
  refine y_st b3 ?_
  intro w6 e5 z4 b4
  replace b4 : Blk w6 w4.heap.size #[(.slice A n c), (.slice B m d)] 163 := blk_full b4 rfl
  refine go ?_
  refine xc_cond (b := (!((f (a, b)).2))) rfl (fun h1 => ?_) (fun h1 => ?_)
  ·
   have h1' := bS h1
   refine go ?_
   refine y_lN (vs := [(.slice A n c), (.slice B m d)]) ⟨b4.cell rfl, b4.cell rfl, trivial⟩ ?_
   have q1 := (c1_f1.keep e3 (fun hb => hb.elim (fun _h => o0_f1.ne_blk c1_f1 (by decide) _ _h rfl) (fun _h => o1_f1.ne_blk c1_f1 (by decide) _ _h rfl)))
   have q2 := ((q1.ext e4).keep1 e5 (by have _q := c1_f1.lt; omega))
   refine y_st q2 ?_
   intro w7 e6 z5 b5
   replace b5 : Blk w7 w1.heap.size #[(.slice A n c), (.slice B m d)] 163 := blk_full b5 rfl
   refine go ?_
   change leaves _ _ _ _ _ _ _
   refine leaves_nil (n := 17) (rs := [.cell 4 163]) (vs := [.agg #[(.slice A n c), (.slice B m d)]]) rfl ⟨⟨by decide, w1.heap.size, 0, 2, [(.slice A n c), (.slice B m d)], rfl, tA_163.h, tS_163.h, rfl, ⟨b5.cell rfl, b5.cell rfl, trivial⟩, rfl⟩, trivial⟩ ?_
   have q3 := ((o1.ext e4).keep1 e5 (fun k hk => (o1.ext e4).ne_blk b3 (by decide) k hk))
   have q4 := (q3.keep1 e6 (fun k hk => q3.ne_blk q2 (by decide) k hk))
   have q5 := ((o2.ext e4).keep1 e5 (fun k hk => (o2.ext e4).ne_blk b3 (by decide) k hk))
   have q6 := (q5.keep1 e6 (fun k hk => q5.ne_blk q2 (by decide) k hk))
   have y3 : Chg (fun b => ((.slice A n c) : Value).ownBlock = some b ∨ ((.slice B m d) : Value).ownBlock = some b) w w7 := (Chg.chg1 (Chg.chg1 (Chg.ext (Chg.trans (Chg.trans (Chg.refl (fun b => ((.slice A n c) : Value).ownBlock = some b ∨ ((.slice B m d) : Value).ownBlock = some b) w) x1 (fun b hb hl => hb)) e3 (fun b hb hl => hb)) e4) e5 (.inr (by omega))) e6 (.inr (by omega)))
   exact ⟨rfl, by rw [hq, fixN_done h1']; exact q4, by rw [hq, fixN_done h1']; exact q6, y3⟩
  ·
   have h1' := bS h1
   refine go ?_
   refine y_lN (vs := [(.slice A n c), (.slice B m d)]) ⟨b4.cell rfl, b4.cell rfl, trivial⟩ ?_
   have q7 := (c0_f1.keep e3 (fun hb => hb.elim (fun _h => o0_f1.ne_blk c0_f1 (by decide) _ _h rfl) (fun _h => o1_f1.ne_blk c0_f1 (by decide) _ _h rfl)))
   have q8 := ((q7.ext e4).keep1 e5 (by have _q := c0_f1.lt; omega))
   refine y_st q8 ?_
   intro w8 e7 z6 b6
   replace b6 : Blk w8 w.heap.size #[(.slice A n c), (.slice B m d)] 163 := blk_full b6 rfl
   have q9 := ((o1.ext e4).keep1 e5 (fun k hk => (o1.ext e4).ne_blk b3 (by decide) k hk))
   have q10 := (q9.keep1 e7 (fun k hk => q9.ne_blk q8 (by decide) k hk))
   have q11 := ((o2.ext e4).keep1 e5 (fun k hk => (o2.ext e4).ne_blk b3 (by decide) k hk))
   have q12 := (q11.keep1 e7 (fun k hk => q11.ne_blk q8 (by decide) k hk))
   have q13 := (c1_f1.keep e3 (fun hb => hb.elim (fun _h => o0_f1.ne_blk c1_f1 (by decide) _ _h rfl) (fun _h => o1_f1.ne_blk c1_f1 (by decide) _ _h rfl)))
   have q14 := ((q13.ext e4).keep1 e5 (by have _q := c1_f1.lt; omega))
   have q15 := (q14.keep1 e7 (by have _q := c1_f1.lt; omega))
   have y4 : Chg (fun b => ((.slice A n c) : Value).ownBlock = some b ∨ ((.slice B m d) : Value).ownBlock = some b) w w8 := (Chg.chg1 (Chg.chg1 (Chg.ext (Chg.trans (Chg.trans (Chg.refl (fun b => ((.slice A n c) : Value).ownBlock = some b ∨ ((.slice B m d) : Value).ownBlock = some b) w) x1 (fun b hb hl => hb)) e3 (fun b hb hl => hb)) e4) e5 (.inr (by omega))) e7 (.inr (by omega)))
   refine go ?_
   exact ⟨rfl, μ (f (a, b)).1, by (rw [hm_f1]; exact (hm (a, b) hI h1').2), (f (a, b)).1.1, (f (a, b)).1.2, by rfl, (hm (a, b) hI h1').1, (hq.trans (fixN_step hm hI h1')), rfl, rfl, rfl, q10, q12, b6, q15, y4⟩
def muR (h : List Bool × List Bool) : Nat := h.1.count false + h.2.count false
theorem set_same {h : List Bool} {i : Nat} (hi : h[i]! = true) : h.set i true = h := by
  by_cases hl : i < h.length
  · apply List.ext_getElem?; intro j
    rw [List.getElem?_set]; split
    · rename_i e; subst e; simp [hl] at hi ⊢; exact hi
    · rfl
  · exact List.set_eq_of_length_le (by omega)
theorem markR_mu {x : Sym} {st : RS} (h1 : x.kind = 1 → x.n.toNat < st.1.2.length) (h3 : x.kind = 3 → x.n.toNat < st.1.1.length) : ((markR x st).1.1.length = st.1.1.length ∧ (markR x st).1.2.length = st.1.2.length) ∧ muR (markR x st).1 ≤ muR st.1 ∧ ((markR x st).2 = true → st.2 = true ∨ muR (markR x st).1 < muR st.1) := by
  obtain ⟨⟨a, b⟩, g⟩ := st
  unfold markR
  by_cases hk : x.kind = 1
  · rw [if_pos hk]
    simp only at h1 ⊢
    refine ⟨by simp, ?_⟩
    cases hb : b[x.n.toNat]! with
    | true => rw [set_same hb]; exact ⟨Nat.le_refl _, fun h => .inl (by simpa using h)⟩
    | false => have := count_set hb (h1 hk); simp only [muR]; exact ⟨by omega, fun _ => .inr (by omega)⟩
  · rw [if_neg hk]
    by_cases hk3 : x.kind = 3
    · rw [if_pos hk3]
      simp only at h3 ⊢
      refine ⟨by simp, ?_⟩
      cases hb : a[x.n.toNat]! with
      | true => rw [set_same hb]; exact ⟨Nat.le_refl _, fun h => .inl (by simpa using h)⟩
      | false => have := count_set hb (h3 hk3); simp only [muR]; exact ⟨by omega, fun _ => .inr (by omega)⟩
    · rw [if_neg hk3]; exact ⟨⟨rfl, rfl⟩, Nat.le_refl _, fun h => .inl h⟩
theorem rowR_mu {nl nn : Nat} : ∀ {l : List Sym} {st : RS}, (∀ x ∈ l, (x.kind = 1 → x.n.toNat < nl) ∧ (x.kind = 3 → x.n.toNat < nn)) → st.1.1.length = nn → st.1.2.length = nl → ((rowR l st).1.1.length = nn ∧ (rowR l st).1.2.length = nl) ∧ muR (rowR l st).1 ≤ muR st.1 ∧ ((rowR l st).2 = true → st.2 = true ∨ muR (rowR l st).1 < muR st.1)
  | [], st, _, h1, h2 => ⟨⟨h1, h2⟩, Nat.le_refl _, fun h => .inl h⟩
  | x :: r, st, hl, h1, h2 => by
    have hx := hl x List.mem_cons_self
    obtain ⟨⟨h3, h4⟩, h5, h6⟩ := markR_mu (x := x) (st := st) (fun h => by rw [h2]; exact hx.1 h) (fun h => by rw [h1]; exact hx.2 h)
    obtain ⟨h7, h8, h9⟩ := rowR_mu (l := r) (st := markR x st) (fun y hy => hl y (List.mem_cons_of_mem _ hy)) (h3.trans h1) (h4.trans h2)
    refine ⟨h7, Nat.le_trans h8 h5, fun h => ?_⟩
    show st.2 = true ∨ muR (rowR r (markR x st)).1 < _
    rcases h9 h with h10 | h10
    · rcases h6 h10 with h11 | h11
      · exact .inl h11
      · exact .inr (by omega)
    · exact .inr (by omega)
theorem stepR_mu {nl nn : Nat} : ∀ {l : List P2} {st : RS}, (∀ p ∈ l, ∀ x ∈ p.2, (x.kind = 1 → x.n.toNat < nl) ∧ (x.kind = 3 → x.n.toNat < nn)) → st.1.1.length = nn → st.1.2.length = nl → ((stepR l st).1.1.length = nn ∧ (stepR l st).1.2.length = nl) ∧ muR (stepR l st).1 ≤ muR st.1 ∧ ((stepR l st).2 = true → st.2 = true ∨ muR (stepR l st).1 < muR st.1)
  | [], st, _, h1, h2 => ⟨⟨h1, h2⟩, Nat.le_refl _, fun h => .inl h⟩
  | p :: r, st, hl, h1, h2 => by
    simp only [stepR]
    split
    · obtain ⟨⟨h3, h4⟩, h5, h6⟩ := rowR_mu (l := p.2) (st := st) (hl p List.mem_cons_self) h1 h2
      obtain ⟨h7, h8, h9⟩ := stepR_mu (l := r) (st := rowR p.2 st) (fun q hq => hl q (List.mem_cons_of_mem _ hq)) h3 h4
      refine ⟨h7, Nat.le_trans h8 h5, fun h => ?_⟩
      rcases h9 h with h10 | h10
      · rcases h6 h10 with h11 | h11
        · exact .inl h11
        · exact .inr (by omega)
      · exact .inr (by omega)
    · exact stepR_mu (fun q hq => hl q (List.mem_cons_of_mem _ hq)) h1 h2
theorem good_ix {g : GD} (hG : GoodG g) : ∀ p ∈ g.prods, ∀ x ∈ p.2, (x.kind = 1 → x.n.toNat < g.triv.length) ∧ (x.kind = 3 → x.n.toNat < g.names) := fun p hp x hx => by
  have h := (hG.2 p hp).2.2 x hx
  exact ⟨fun hk => by have := (symE_term h hk).1; omega, fun hk => by have := symE_name h hk; omega⟩
theorem stepR_dec {g : GD} {h : List Bool × List Bool} (hG : GoodG g) (h1 : h.1.length = g.names) (h2 : h.2.length = g.triv.length) (hg : (stepR g.prods (h, false)).2 = true) : muR (stepR g.prods (h, false)).1 < muR h :=
  ((stepR_mu (st := (h, false)) (good_ix hG) h1 h2).2.2 hg).resolve_left (fun q => by cases q)
theorem markR_len (x : Sym) (st : RS) : (markR x st).1.1.length = st.1.1.length ∧ (markR x st).1.2.length = st.1.2.length := by
  unfold markR; split
  · exact ⟨rfl, List.length_set ..⟩
  · split
    · exact ⟨List.length_set .., rfl⟩
    · exact ⟨rfl, rfl⟩
theorem rowR_len : ∀ (l : List Sym) (st : RS), (rowR l st).1.1.length = st.1.1.length ∧ (rowR l st).1.2.length = st.1.2.length
  | [], _ => ⟨rfl, rfl⟩
  | x :: r, st => ⟨(rowR_len r _).1.trans (markR_len x st).1, (rowR_len r _).2.trans (markR_len x st).2⟩
theorem stepR_len0 : ∀ (l : List P2) (st : RS), (stepR l st).1.1.length = st.1.1.length ∧ (stepR l st).1.2.length = st.1.2.length
  | [], _ => ⟨rfl, rfl⟩
  | p :: r, st => by
    simp only [stepR]; split
    · exact ⟨(stepR_len0 r _).1.trans (rowR_len p.2 st).1, (stepR_len0 r _).2.trans (rowR_len p.2 st).2⟩
    · exact stepR_len0 r st
theorem stepR_len {nn nl : Nat} (l : List P2) (h : List Bool × List Bool) (hI : h.1.length = nn ∧ h.2.length = nl) : (stepR l (h, false)).1.1.length = nn ∧ (stepR l (h, false)).1.2.length = nl :=
  ⟨(stepR_len0 l (h, false)).1.trans hI.1, (stepR_len0 l (h, false)).2.trans hI.2⟩
def reachG (g : GD) : List Bool × List Bool := fixN (fun h => stepR g.prods (h, false)) (muR ((List.replicate g.names false).set g.start.toNat true, List.replicate g.triv.length false) + 1) ((List.replicate g.names false).set g.start.toNat true, List.replicate g.triv.length false)
theorem reachG_len {g : GD} (hG : GoodG g) : (reachG g).1.length = g.names ∧ (reachG g).2.length = g.triv.length :=
  fixN_inv (P := fun h => h.1.length = g.names ∧ h.2.length = g.triv.length) (fun h hh => stepR_len _ h hh) _ _ ⟨by simp, by simp⟩
def unR : List Bool → List Bool → Nat → Int
  | r :: rs, t :: ts, i => if r = false ∧ t = false then (i : Nat) else unR rs ts (i + 1)
  | _, _, _ => -1
theorem unR_hit {a b : List Bool} {i : Nat} {r t : Bool} (ha : a[i]? = some r) (hb : b[i]? = some t) (h : r = false ∧ t = false) : unR (a.drop i) (b.drop i) i = (i : Nat) := by rw [drop_get ha, drop_get hb, unR, if_pos h]
theorem unR_next {a b : List Bool} {i : Nat} {r t : Bool} (ha : a[i]? = some r) (hb : b[i]? = some t) (h : ¬ (r = false ∧ t = false)) : unR (a.drop i) (b.drop i) i = unR (a.drop (i + 1)) (b.drop (i + 1)) (i + 1) := by rw [drop_get ha, drop_get hb, unR, if_neg h]
def reachedE (g : GD) : Int × Int := if 0 ≤ idxO false (reachG g).1 0 then (72, idxO false (reachG g).1 0) else if 0 ≤ unR (reachG g).2 g.triv 0 then (72, unR (reachG g).2 g.triv 0) else (0, 0)
theorem reachedE_names {g : GD} (h : 0 ≤ idxO false (reachG g).1 0) : reachedE g = (72, idxO false (reachG g).1 0) := by unfold reachedE; rw [if_pos h]
theorem reachedE_rules {g : GD} {r : Int} (h : ¬ (0 ≤ idxO false (reachG g).1 0)) (h2 : unR (reachG g).2 g.triv 0 = r) (h0 : 0 ≤ r) : reachedE g = (72, r) := by unfold reachedE; rw [if_neg h, h2, if_pos h0]
theorem reachedE_ok {g : GD} (h : ¬ (0 ≤ idxO false (reachG g).1 0)) (h2 : unR (reachG g).2 g.triv 0 = -1) : reachedE g = (0, 0) := by unfold reachedE; rw [if_neg h, h2, if_neg (by decide)]
instance pf_118 : PlF Tryz.prog 118 := ⟨by kernel_rfl⟩
instance pf_119 : PlF Tryz.prog 119 := ⟨by kernel_rfl⟩
instance pf_89 : PlF Tryz.prog 89 := ⟨by kernel_rfl⟩
instance tP_163 : PcT Tryz.prog 163 #[(0, 1), (1, 1)] := ⟨by kernel_rfl⟩
theorem reached_calls (s : SP) (w : World) (hS : SpR w s) (hG : GoodG s.g) :
    Calls Tryz.prog 88 #[(.agg #[(.slice s.lA s.lex.length s.lc), (.slice s.nA s.names.length s.nc), (.int .i64 s.start), (.slice s.pA s.prods.length s.pc)])] w (Ret (fun v w' => v = faultV (reachedE s.g).1 (reachedE s.g).2 ∧ Ext w w')) := by
 have hfn := hS.fn.le; have hfl := hS.fl.le
 refine calls_y (n := 55) Tryz.func88 ?_
 refine go ?_
 refine y_bx ?_
 intro w1 e1 z1 b1
 refine y_al ?_
 intro w2 e2 z2 b2
 refine go0 ?_
 refine xc_cut (fun f' W' => ∃ A B b, f' 1 = .pointer (some ⟨w.heap.size, 0, none⟩) ∧ f' 2 = .pointer (some ⟨w1.heap.size, 0, none⟩) ∧ f' 3 = .pointer (some ⟨b, 0, none⟩) ∧ Vx.Own W' 4 1 (.slice A s.names.length s.names.length) s.names.length (((List.replicate s.names.length false)).flatMap bools) ∧ Vx.Own W' 4 1 (.slice B s.lex.length s.lex.length) s.lex.length (((List.replicate s.lex.length false)).flatMap bools) ∧ (∀ k, (Value.slice A s.names.length s.names.length).ownBlock = some k → w.heap.size ≤ k) ∧ (∀ k, (Value.slice B s.lex.length s.lex.length).ownBlock = some k → w.heap.size ≤ k) ∧ (∀ k, (Value.slice A s.names.length s.names.length).ownBlock = some k → (Value.slice B s.lex.length s.lex.length).ownBlock = some k → False) ∧ Blk W' b #[.slice A s.names.length s.names.length, .slice B s.lex.length s.lex.length] 163 ∧ Blk W' w.heap.size #[(.slice s.lA s.lex.length s.lc), (.slice s.nA s.names.length s.nc), (.int .i64 s.start), (.slice s.pA s.prods.length s.pc)] 26 ∧ Blk W' w1.heap.size #[(.int .i64 0), (.int .i64 0), (.string (⟨#[]⟩))] 75 ∧ Ext w W' ∧ w.heap.size ≤ b) ?_ ?_
 ·
  refine xc_regionE [10] (fun W_ => Chg (fun _ => False) w2 W_) hmix ?_
  intro w3 e3 z3
  have hS1 : Chg (fun _ => False) w2 w3 := Ext.to e3
  refine yDp 0 ?_
  refine yDt (i := 1) rfl hS1 (fun W_ hW_ => ox_load tA_23.h rfl (((b1.ext e2).ext hW_).cell rfl) ⟨rfl, rfl⟩) ?_
  refine yDp 2 ?_
  refine yDp 4 ?_
  refine yDt (i := 5) rfl hS1 (fun W_ hW_ => ox_load tA_22.h rfl (((b1.ext e2).ext hW_).cell rfl) ⟨rfl, rfl⟩) ?_
  refine yDp 6 ?_
  refine xd_three 3 7 9 (some 11) (some 15) (some 3) rfl rfl rfl rfl rfl rfl (by kernel_rfl) rfl rfl rfl (ox_makeD (n := s.names.length) (l := ((List.replicate s.names.length false))) (cs := bools) tE_144.h rfl rfl (by omega) (by omega) (made_bools _) ?_) (ox_makeD (n := s.lex.length) (l := ((List.replicate s.lex.length false))) (cs := bools) tE_144.h rfl rfl (by omega) (by omega) (made_bools _) ?_) (ox_alloc tZ_163.h ?_)
  ·
   intro A1 w4 o1 e4 lo1
   have he4 := e4.size
   have hS2 : Chg (fun _ => False) w2 w4 := Chg.ext hS1 e4
   refine ⟨.inr fun _ => hS2, ?_⟩
   refine xd_two 7 9 (some 15) (some 3) rfl rfl rfl rfl (by kernel_rfl) rfl rfl (ox_makeD (n := s.lex.length) (l := ((List.replicate s.lex.length false))) (cs := bools) tE_144.h rfl rfl (by omega) (by omega) (made_bools _) ?_) (ox_alloc tZ_163.h ?_)
   ·
    intro A3 w6 o3 e7 lo3
    have he7 := e7.size
    have hS3 : Chg (fun _ => False) w2 w6 := Chg.ext hS2 e7
    refine ⟨.inr fun _ => hS3, ?_⟩
    refine yDq (i := 8) rfl (fun W_ hW_ => ox_mkStruct (ps := [(0, (.slice A1 s.names.length s.names.length)), (1, (.slice A3 s.lex.length s.lex.length))]) (cs := #[(.slice A1 s.names.length s.names.length), (.slice A3 s.lex.length s.lex.length)]) tZ_163.h tP_163.h rfl (by kernel_rfl) ⟨rfl, rfl⟩) ?_
    refine yD1 (i := 9) rfl (ox_alloc tZ_163.h ?_)
    intro w7 e9 z9 b5
    have hS4 : Chg (fun _ => False) w2 w7 := Chg.ext hS3 e9
    refine ⟨.inr fun _ => hS4, ?_⟩
    refine yD1 (i := 10) rfl (ox_store (n := 2) (vs := [(.slice A1 s.names.length s.names.length), (.slice A3 s.lex.length s.lex.length)]) tS_163.h rfl (v := (.agg #[(.slice A1 s.names.length s.names.length), (.slice A3 s.lex.length s.lex.length)])) rfl rfl rfl rfl b5 (Nat.le_of_ble_eq_true rfl) ?_)
    intro w8 e10 z10 b6
    replace b6 : Blk w8 w6.heap.size #[(.slice A1 s.names.length s.names.length), (.slice A3 s.lex.length s.lex.length)] 163 := blk_full b6 rfl
    refine ⟨.inl (by decide), ?_⟩
    refine xd_done (by kernel_rfl) ?_ _
    have q1 := (((o1.ext e7).ext e9).keep1 e10 (fun k hk => ((o1.ext e7).ext e9).ne_blk b5 (by decide) k hk))
    have q2 := ((o3.ext e9).keep1 e10 (fun k hk => (o3.ext e9).ne_blk b5 (by decide) k hk))
    have q3 := (((((b1.ext e2).ext e3).ext e4).ext e7).ext e9)
    have q4 := (((((b2.ext e3).ext e4).ext e7).ext e9).keep1 e10 (((((b2.ext e3).ext e4).ext e7).ext e9).ne b5 (by decide)))
    have x1 : Ext w w8 := (Ext.chg1 (Ext.trans (Ext.trans (Ext.trans (Ext.trans (Ext.trans e1 e2) e3) e4) e7) e9) e10 (by omega))
    refine go ?_
    exact ⟨rfl, A1, A3, w6.heap.size, rfl, rfl, rfl, q1, q2, fun k hk => by have _h := lo1 k hk; omega, fun k hk => by have _h := lo3 k hk; omega, fun k h1 h2 => by have _a := o1.lt k h1; have _b := lo3 k h2; have _c := o3.lt k h2; have _d := lo1 k h1; omega, b6, (q3.keep1 e10 (q3.ne b5 (by decide))), q4, x1, by omega⟩
   ·
    intro w9 e8 z8 b4
    have hS5 : Chg (fun _ => False) w2 w9 := Chg.ext hS2 e8
    refine ⟨.inr fun _ => hS5, ?_⟩
    refine yD1 (i := 7) rfl (ox_makeD (n := s.lex.length) (l := ((List.replicate s.lex.length false))) (cs := bools) tE_144.h rfl rfl (by omega) (by omega) (made_bools _) ?_)
    intro A4 w10 o4 e11 lo4
    have he11 := e11.size
    have hS6 : Chg (fun _ => False) w2 w10 := Chg.ext hS5 e11
    refine ⟨.inr fun _ => hS6, ?_⟩
    refine yDq (i := 8) rfl (fun W_ hW_ => ox_mkStruct (ps := [(0, (.slice A1 s.names.length s.names.length)), (1, (.slice A4 s.lex.length s.lex.length))]) (cs := #[(.slice A1 s.names.length s.names.length), (.slice A4 s.lex.length s.lex.length)]) tZ_163.h tP_163.h rfl (by kernel_rfl) ⟨rfl, rfl⟩) ?_
    refine yD1 (i := 10) rfl (ox_store (n := 2) (vs := [(.slice A1 s.names.length s.names.length), (.slice A4 s.lex.length s.lex.length)]) tS_163.h rfl (v := (.agg #[(.slice A1 s.names.length s.names.length), (.slice A4 s.lex.length s.lex.length)])) rfl rfl rfl rfl (b4.ext e11) (Nat.le_of_ble_eq_true rfl) ?_)
    intro w11 e12 z12 b7
    replace b7 : Blk w11 w4.heap.size #[(.slice A1 s.names.length s.names.length), (.slice A4 s.lex.length s.lex.length)] 163 := blk_full b7 rfl
    refine ⟨.inl (by decide), ?_⟩
    refine xd_done (by kernel_rfl) ?_ _
    have q5 := (((o1.ext e8).ext e11).keep1 e12 (fun k hk => ((o1.ext e8).ext e11).ne_blk (b4.ext e11) (by decide) k hk))
    have q6 := (o4.keep1 e12 (fun k hk => o4.ne_blk (b4.ext e11) (by decide) k hk))
    have q7 := (((((b1.ext e2).ext e3).ext e4).ext e8).ext e11)
    have q8 := (q7.keep1 e12 (q7.ne (b4.ext e11) (by decide)))
    have q9 := (((((b2.ext e3).ext e4).ext e8).ext e11).keep1 e12 (((((b2.ext e3).ext e4).ext e8).ext e11).ne (b4.ext e11) (by decide)))
    have x2 : Ext w w11 := (Ext.chg1 (Ext.trans (Ext.trans (Ext.trans (Ext.trans (Ext.trans e1 e2) e3) e4) e8) e11) e12 (by omega))
    refine go ?_
    exact ⟨rfl, A1, A4, w4.heap.size, rfl, rfl, rfl, q5, q6, fun k hk => by have _h := lo1 k hk; omega, fun k hk => by have _h := lo4 k hk; omega, fun k h1 h2 => by have _a := o1.lt k h1; have _b := lo4 k h2; have _c := o4.lt k h2; have _d := lo1 k h1; omega, b7, q8, q9, x2, by omega⟩
  ·
   intro A2 w5 o2 e5 lo2
   have he5 := e5.size
   have hS7 : Chg (fun _ => False) w2 w5 := Chg.ext hS1 e5
   refine ⟨.inr fun _ => hS7, ?_⟩
   refine xd_two 3 9 (some 11) (some 3) rfl rfl rfl rfl (by kernel_rfl) rfl rfl (ox_makeD (n := s.names.length) (l := ((List.replicate s.names.length false))) (cs := bools) tE_144.h rfl rfl (by omega) (by omega) (made_bools _) ?_) (ox_alloc tZ_163.h ?_)
   ·
    intro A5 w12 o5 e13 lo5
    have he13 := e13.size
    have hS8 : Chg (fun _ => False) w2 w12 := Chg.ext hS7 e13
    refine ⟨.inr fun _ => hS8, ?_⟩
    refine yDq (i := 8) rfl (fun W_ hW_ => ox_mkStruct (ps := [(0, (.slice A5 s.names.length s.names.length)), (1, (.slice A2 s.lex.length s.lex.length))]) (cs := #[(.slice A5 s.names.length s.names.length), (.slice A2 s.lex.length s.lex.length)]) tZ_163.h tP_163.h rfl (by kernel_rfl) ⟨rfl, rfl⟩) ?_
    refine yD1 (i := 9) rfl (ox_alloc tZ_163.h ?_)
    intro w13 e15 z15 b9
    have hS9 : Chg (fun _ => False) w2 w13 := Chg.ext hS8 e15
    refine ⟨.inr fun _ => hS9, ?_⟩
    refine yD1 (i := 10) rfl (ox_store (n := 2) (vs := [(.slice A5 s.names.length s.names.length), (.slice A2 s.lex.length s.lex.length)]) tS_163.h rfl (v := (.agg #[(.slice A5 s.names.length s.names.length), (.slice A2 s.lex.length s.lex.length)])) rfl rfl rfl rfl b9 (Nat.le_of_ble_eq_true rfl) ?_)
    intro w14 e16 z16 b10
    replace b10 : Blk w14 w12.heap.size #[(.slice A5 s.names.length s.names.length), (.slice A2 s.lex.length s.lex.length)] 163 := blk_full b10 rfl
    refine ⟨.inl (by decide), ?_⟩
    refine xd_done (by kernel_rfl) ?_ _
    have q10 := ((o5.ext e15).keep1 e16 (fun k hk => (o5.ext e15).ne_blk b9 (by decide) k hk))
    have q11 := (((o2.ext e13).ext e15).keep1 e16 (fun k hk => ((o2.ext e13).ext e15).ne_blk b9 (by decide) k hk))
    have q12 := (((((b1.ext e2).ext e3).ext e5).ext e13).ext e15)
    have q13 := (((((b2.ext e3).ext e5).ext e13).ext e15).keep1 e16 (((((b2.ext e3).ext e5).ext e13).ext e15).ne b9 (by decide)))
    have x3 : Ext w w14 := (Ext.chg1 (Ext.trans (Ext.trans (Ext.trans (Ext.trans (Ext.trans e1 e2) e3) e5) e13) e15) e16 (by omega))
    refine go ?_
    exact ⟨rfl, A5, A2, w12.heap.size, rfl, rfl, rfl, q10, q11, fun k hk => by have _h := lo5 k hk; omega, fun k hk => by have _h := lo2 k hk; omega, fun k h1 h2 => by have _a := o5.lt k h1; have _b := lo2 k h2; have _c := o2.lt k h2; have _d := lo5 k h1; omega, b10, (q12.keep1 e16 (q12.ne b9 (by decide))), q13, x3, by omega⟩
   ·
    intro w15 e14 z14 b8
    have hS10 : Chg (fun _ => False) w2 w15 := Chg.ext hS7 e14
    refine ⟨.inr fun _ => hS10, ?_⟩
    refine yD1 (i := 3) rfl (ox_makeD (n := s.names.length) (l := ((List.replicate s.names.length false))) (cs := bools) tE_144.h rfl rfl (by omega) (by omega) (made_bools _) ?_)
    intro A6 w16 o6 e17 lo6
    have he17 := e17.size
    have hS11 : Chg (fun _ => False) w2 w16 := Chg.ext hS10 e17
    refine ⟨.inr fun _ => hS11, ?_⟩
    refine yDq (i := 8) rfl (fun W_ hW_ => ox_mkStruct (ps := [(0, (.slice A6 s.names.length s.names.length)), (1, (.slice A2 s.lex.length s.lex.length))]) (cs := #[(.slice A6 s.names.length s.names.length), (.slice A2 s.lex.length s.lex.length)]) tZ_163.h tP_163.h rfl (by kernel_rfl) ⟨rfl, rfl⟩) ?_
    refine yD1 (i := 10) rfl (ox_store (n := 2) (vs := [(.slice A6 s.names.length s.names.length), (.slice A2 s.lex.length s.lex.length)]) tS_163.h rfl (v := (.agg #[(.slice A6 s.names.length s.names.length), (.slice A2 s.lex.length s.lex.length)])) rfl rfl rfl rfl (b8.ext e17) (Nat.le_of_ble_eq_true rfl) ?_)
    intro w17 e18 z18 b11
    replace b11 : Blk w17 w5.heap.size #[(.slice A6 s.names.length s.names.length), (.slice A2 s.lex.length s.lex.length)] 163 := blk_full b11 rfl
    refine ⟨.inl (by decide), ?_⟩
    refine xd_done (by kernel_rfl) ?_ _
    have q14 := (o6.keep1 e18 (fun k hk => o6.ne_blk (b8.ext e17) (by decide) k hk))
    have q15 := (((o2.ext e14).ext e17).keep1 e18 (fun k hk => ((o2.ext e14).ext e17).ne_blk (b8.ext e17) (by decide) k hk))
    have q16 := (((((b1.ext e2).ext e3).ext e5).ext e14).ext e17)
    have q17 := (q16.keep1 e18 (q16.ne (b8.ext e17) (by decide)))
    have q18 := (((((b2.ext e3).ext e5).ext e14).ext e17).keep1 e18 (((((b2.ext e3).ext e5).ext e14).ext e17).ne (b8.ext e17) (by decide)))
    have x4 : Ext w w17 := (Ext.chg1 (Ext.trans (Ext.trans (Ext.trans (Ext.trans (Ext.trans e1 e2) e3) e5) e14) e17) e18 (by omega))
    refine go ?_
    exact ⟨rfl, A6, A2, w5.heap.size, rfl, rfl, rfl, q14, q15, fun k hk => by have _h := lo6 k hk; omega, fun k hk => by have _h := lo2 k hk; omega, fun k h1 h2 => by have _a := o6.lt k h1; have _b := lo2 k h2; have _c := o2.lt k h2; have _d := lo6 k h1; omega, b11, q17, q18, x4, by omega⟩
  ·
   intro w18 e6 z6 b3
   have hS12 : Chg (fun _ => False) w2 w18 := Chg.ext hS1 e6
   refine ⟨.inr fun _ => hS12, ?_⟩
   refine xd_two 3 7 (some 11) (some 15) rfl rfl rfl rfl (by kernel_rfl) rfl rfl (ox_makeD (n := s.names.length) (l := ((List.replicate s.names.length false))) (cs := bools) tE_144.h rfl rfl (by omega) (by omega) (made_bools _) ?_) (ox_makeD (n := s.lex.length) (l := ((List.replicate s.lex.length false))) (cs := bools) tE_144.h rfl rfl (by omega) (by omega) (made_bools _) ?_)
   ·
    intro A7 w19 o7 e19 lo7
    have he19 := e19.size
    have hS13 : Chg (fun _ => False) w2 w19 := Chg.ext hS12 e19
    refine ⟨.inr fun _ => hS13, ?_⟩
    refine yD1 (i := 7) rfl (ox_makeD (n := s.lex.length) (l := ((List.replicate s.lex.length false))) (cs := bools) tE_144.h rfl rfl (by omega) (by omega) (made_bools _) ?_)
    intro A9 w21 o9 e21 lo9
    have he21 := e21.size
    have hS14 : Chg (fun _ => False) w2 w21 := Chg.ext hS13 e21
    refine ⟨.inr fun _ => hS14, ?_⟩
    refine yDq (i := 8) rfl (fun W_ hW_ => ox_mkStruct (ps := [(0, (.slice A7 s.names.length s.names.length)), (1, (.slice A9 s.lex.length s.lex.length))]) (cs := #[(.slice A7 s.names.length s.names.length), (.slice A9 s.lex.length s.lex.length)]) tZ_163.h tP_163.h rfl (by kernel_rfl) ⟨rfl, rfl⟩) ?_
    refine yD1 (i := 10) rfl (ox_store (n := 2) (vs := [(.slice A7 s.names.length s.names.length), (.slice A9 s.lex.length s.lex.length)]) tS_163.h rfl (v := (.agg #[(.slice A7 s.names.length s.names.length), (.slice A9 s.lex.length s.lex.length)])) rfl rfl rfl rfl ((b3.ext e19).ext e21) (Nat.le_of_ble_eq_true rfl) ?_)
    intro w22 e22 z22 b12
    replace b12 : Blk w22 w3.heap.size #[(.slice A7 s.names.length s.names.length), (.slice A9 s.lex.length s.lex.length)] 163 := blk_full b12 rfl
    refine ⟨.inl (by decide), ?_⟩
    refine xd_done (by kernel_rfl) ?_ _
    have q19 := ((o7.ext e21).keep1 e22 (fun k hk => (o7.ext e21).ne_blk ((b3.ext e19).ext e21) (by decide) k hk))
    have q20 := (o9.keep1 e22 (fun k hk => o9.ne_blk ((b3.ext e19).ext e21) (by decide) k hk))
    have q21 := (((((b1.ext e2).ext e3).ext e6).ext e19).ext e21)
    have q22 := (q21.keep1 e22 (q21.ne ((b3.ext e19).ext e21) (by decide)))
    have q23 := (((((b2.ext e3).ext e6).ext e19).ext e21).keep1 e22 (((((b2.ext e3).ext e6).ext e19).ext e21).ne ((b3.ext e19).ext e21) (by decide)))
    have x5 : Ext w w22 := (Ext.chg1 (Ext.trans (Ext.trans (Ext.trans (Ext.trans (Ext.trans e1 e2) e3) e6) e19) e21) e22 (by omega))
    refine go ?_
    exact ⟨rfl, A7, A9, w3.heap.size, rfl, rfl, rfl, q19, q20, fun k hk => by have _h := lo7 k hk; omega, fun k hk => by have _h := lo9 k hk; omega, fun k h1 h2 => by have _a := o7.lt k h1; have _b := lo9 k h2; have _c := o9.lt k h2; have _d := lo7 k h1; omega, b12, q22, q23, x5, by omega⟩
   ·
    intro A8 w20 o8 e20 lo8
    have he20 := e20.size
    have hS15 : Chg (fun _ => False) w2 w20 := Chg.ext hS12 e20
    refine ⟨.inr fun _ => hS15, ?_⟩
    refine yD1 (i := 3) rfl (ox_makeD (n := s.names.length) (l := ((List.replicate s.names.length false))) (cs := bools) tE_144.h rfl rfl (by omega) (by omega) (made_bools _) ?_)
    intro A10 w23 o10 e23 lo10
    have he23 := e23.size
    have hS16 : Chg (fun _ => False) w2 w23 := Chg.ext hS15 e23
    refine ⟨.inr fun _ => hS16, ?_⟩
    refine yDq (i := 8) rfl (fun W_ hW_ => ox_mkStruct (ps := [(0, (.slice A10 s.names.length s.names.length)), (1, (.slice A8 s.lex.length s.lex.length))]) (cs := #[(.slice A10 s.names.length s.names.length), (.slice A8 s.lex.length s.lex.length)]) tZ_163.h tP_163.h rfl (by kernel_rfl) ⟨rfl, rfl⟩) ?_
    refine yD1 (i := 10) rfl (ox_store (n := 2) (vs := [(.slice A10 s.names.length s.names.length), (.slice A8 s.lex.length s.lex.length)]) tS_163.h rfl (v := (.agg #[(.slice A10 s.names.length s.names.length), (.slice A8 s.lex.length s.lex.length)])) rfl rfl rfl rfl ((b3.ext e20).ext e23) (Nat.le_of_ble_eq_true rfl) ?_)
    intro w24 e24 z24 b13
    replace b13 : Blk w24 w3.heap.size #[(.slice A10 s.names.length s.names.length), (.slice A8 s.lex.length s.lex.length)] 163 := blk_full b13 rfl
    refine ⟨.inl (by decide), ?_⟩
    refine xd_done (by kernel_rfl) ?_ _
    have q24 := (o10.keep1 e24 (fun k hk => o10.ne_blk ((b3.ext e20).ext e23) (by decide) k hk))
    have q25 := ((o8.ext e23).keep1 e24 (fun k hk => (o8.ext e23).ne_blk ((b3.ext e20).ext e23) (by decide) k hk))
    have q26 := (((((b1.ext e2).ext e3).ext e6).ext e20).ext e23)
    have q27 := (q26.keep1 e24 (q26.ne ((b3.ext e20).ext e23) (by decide)))
    have q28 := (((((b2.ext e3).ext e6).ext e20).ext e23).keep1 e24 (((((b2.ext e3).ext e6).ext e20).ext e23).ne ((b3.ext e20).ext e23) (by decide)))
    have x6 : Ext w w24 := (Ext.chg1 (Ext.trans (Ext.trans (Ext.trans (Ext.trans (Ext.trans e1 e2) e3) e6) e20) e23) e24 (by omega))
    refine go ?_
    exact ⟨rfl, A10, A8, w3.heap.size, rfl, rfl, rfl, q24, q25, fun k hk => by have _h := lo10 k hk; omega, fun k hk => by have _h := lo8 k hk; omega, fun k h1 h2 => by have _a := o10.lt k h1; have _b := lo8 k h2; have _c := o8.lt k h2; have _d := lo10 k h1; omega, b13, q27, q28, x6, by omega⟩
 rintro fc wc ⟨A, B, bb, gc1, gc2, gc3, hoA, hoB, hloA, hloB, hne, hbb, hb1, hb2, xc, hlb⟩
 have hxc := xc.size
 have hgs : 0 ≤ s.start ∧ s.start < (s.names.length : Int) := hG.1
 rw [← usf gc1, ← usf gc2, ← usf gc3]
 refine go ?_
 refine y_ld hbb ?_
 refine go ?_
 refine y_ld hb1 ?_
 obtain ⟨x_1, g_1, hx_1⟩ := own_may (A := A) s.start.toNat bools_len (by decide) hoA
 obtain ⟨hx_2, hA_1, hc_1⟩ := hx_1 oM
 refine y_ix s.start.toNat hA_1 ?_
 refine yNp (ox_stE (i := s.start.toNat) (off := 0) (vs := [(.bool true)]) (b := (true : Bool)) bools_len tS_4.h hA_1 rfl (v := (.bool true)) rfl rfl rfl rfl hoA hx_2 rfl (by decide) (by omega) ?_)
 intro w25 e25 z25 o11
 have q29 := (hbb.keep e25 (fun _h => hoA.ne_blk hbb (by decide) _ _h rfl))
 refine go ?_
 refine y_lN (vs := [(.slice A s.names.length s.names.length), (.slice B s.lex.length s.lex.length)]) ⟨q29.cell rfl, q29.cell rfl, trivial⟩ ?_
 refine yOp (ox_mkFunc (cs := [(.pointer (some ⟨w.heap.size, 0, none⟩))]) rfl ?_)
 have q30 := (hoB.keep e25 (fun _k _hk _hh => hne _k _hh _hk))
 have q31 := (hb1.keep e25 (fun _h => hoA.ne_blk hb1 (by decide) _ _h rfl))
 have x7 : Ext w w25 := (Chg.trans xc e25 (fun b hb hl => (absurd hl (by have _h := hloA b hb; omega))))
 have hpa := o11
 have hpb := q30
 refine yCa (ret_mono (fixedR s.names.length s.names.length s.lex.length s.lex.length A B _ _ (fun h => stepR s.g.prods (h, false)) muR (fun h => h.1.length = s.names.length ∧ h.2.length = s.lex.length) 119 [.pointer (some ⟨w.heap.size, 0, none⟩)] w25 hne hpa hpb pf_119.h ⟨by simp, by simp⟩ (fun h hI hg => ⟨stepR_len _ _ hI, stepR_dec hG hI.1 (hI.2.trans s.glex.symm) hg⟩) (fun h W hI ha hb hc => reached1_calls s w.heap.size s.names.length s.names.length s.lex.length s.lex.length A B h.1 h.2 w W (q31.keep hc (fun _h => _h.elim (fun _h => hpa.ne_blk q31 (by decide) _ _h rfl) (fun _h => hpb.ne_blk q31 (by decide) _ _h rfl))) (Chg.trans x7 hc (fun b hb hl => hb.elim (fun hb => absurd hl (by have _h := hloA b hb; omega)) (fun hb => absurd hl (by have _h := hloB b hb; omega)))) hloA hloB hne hS hG rfl rfl ha hb)) ?_)
 rintro _ w26 ⟨rfl, o12, o13, y1⟩
 have hy1 := y1.size
 have hrg : fixN (fun h => stepR s.g.prods (h, false)) (muR ((((List.replicate s.names.length false)).set s.start.toNat true), (List.replicate s.lex.length false)) + 1) ((((List.replicate s.names.length false)).set s.start.toNat true), (List.replicate s.lex.length false)) = reachG s.g := by unfold reachG; rw [s.glex] <;> rfl
 rw [hrg] at o12 o13
 have hrl := reachG_len hG
 have hrn : (reachG s.g).1.length = s.names.length := hrl.1
 have hrx : (reachG s.g).2.length = s.lex.length := hrl.2.trans s.glex
 refine y_al ?_
 intro w27 e26 z26 b14
 refine y_st b14 ?_
 intro w28 e27 z27 b15
 replace b15 : Blk w28 w26.heap.size #[(.slice A s.names.length s.names.length), (.slice B s.lex.length s.lex.length)] 163 := blk_full b15 rfl
 refine go ?_
 refine y_ld b15 ?_
 have q32 := ((o12.ext e26).keep1 e27 (fun k hk => (o12.ext e26).ne_blk b14 (by decide) k hk))
 refine yCa (ret_mono ((by have h := indexB (reachG s.g).1 A s.names.length false w28 (Own.rowO q32) (by rw [hrn]; omega); rw [hrn] at h; exact h)) ?_)
 rintro _ w29 ⟨rfl, e28⟩
 have he28 := e28.size
 refine go ?_
 refine y_if (fun h1 => ?_) (fun h1 => ?_)
 ·
  refine go ?_
  refine yOp (ox_mkStruct (ps := [(0, (.int .i64 72)), (1, (.int .i64 (idxO false (reachG s.g).1 0)))]) (cs := #[(.int .i64 72), (.int .i64 (idxO false (reachG s.g).1 0)), (.string (⟨#[]⟩))]) tZ_75.h tP_75.h rfl (by kernel_rfl) ?_)
  have q33 := (hb2.keep e25 (fun _h => hoA.ne_blk hb2 (by decide) _ _h rfl))
  have q34 := (q33.keep y1 (fun hb => hb.elim (fun _h => o11.ne_blk q33 (by decide) _ _h rfl) (fun _h => q30.ne_blk q33 (by decide) _ _h rfl)))
  have q35 := ((q34.ext e26).keep1 e27 ((q34.ext e26).ne b14 (by decide)))
  refine y_st (q35.ext e28) ?_
  intro w30 e29 z28 b16
  replace b16 : Blk w30 w1.heap.size #[(.int .i64 72), (.int .i64 (idxO false (reachG s.g).1 0)), (.string (⟨#[]⟩))] 75 := blk_full b16 rfl
  refine go ?_
  change leaves _ _ _ _ _ _ _
  refine leaves_nil (n := 55) (rs := [.cell 2 75]) (vs := [.agg #[(.int .i64 72), (.int .i64 (idxO false (reachG s.g).1 0)), (.string (⟨#[]⟩))]]) rfl ⟨⟨by decide, w1.heap.size, 0, 3, [(.int .i64 72), (.int .i64 (idxO false (reachG s.g).1 0)), (.string (⟨#[]⟩))], rfl, tA_75.h, tS_75.h, rfl, ⟨b16.cell rfl, b16.cell rfl, b16.cell rfl, trivial⟩, rfl⟩, trivial⟩ ?_
  have x8 : Ext w w30 := (Ext.chg1 (Ext.trans (Ext.chg1 (Ext.trans (Chg.trans x7 y1 (fun b hb hl => hb.elim (fun hb => (absurd hl (by have _h := hloA b hb; omega))) (fun hb => (absurd hl (by have _h := hloB b hb; omega))))) e26) e27 (by omega)) e28) e29 (by omega))
  exact ⟨(show Value.agg #[(.int .i64 72), (.int .i64 (idxO false (reachG s.g).1 0)), (.string (⟨#[]⟩))] = faultV _ _ from by rw [reachedE_names h1] <;> rfl), x8⟩
 ·
  refine go ?_
  refine y_ld (b15.ext e28) ?_
  refine go ?_
  refine xc_loopN (fun m_ f_ Wx => ∃ (i : Nat), m_ = s.lex.length - i ∧ (i ≤ s.lex.length) ∧ (unR (reachG s.g).2 s.g.triv 0 = unR ((reachG s.g).2.drop i) (s.g.triv.drop i) i) ∧ f_ 1 = (.pointer (some ⟨w.heap.size, 0, none⟩)) ∧ f_ 2 = (.pointer (some ⟨w1.heap.size, 0, none⟩)) ∧ f_ 33 = (.slice B s.lex.length s.lex.length) ∧ f_ 34 = (.int .i64 (((s.lex.length : Nat) : Int))) ∧ f_ 35 = (.int .i64 ((i : Nat))) ∧ Ext w29 Wx) (s.lex.length) ?_ ?_
  ·
   exact ⟨0, (by omega), (by omega), rfl, rfl, rfl, rfl, rfl, vW, (Chg.refl _ _)⟩
  ·
   rintro m_ f1 w31 ⟨i, hm_f1, hi, hq, g1_f1, g2_f1, g33_f1, g34_f1, g35_f1, x9⟩
   have hx9 := x9.size
   rw [← usf g1_f1, ← usf g2_f1, ← usf g33_f1, ← usf g34_f1, ← usf g35_f1]
   refine go ?_
   refine y_if (fun h2 => ?_) (fun h2 => ?_)
   ·
    have q36 := ((o13.ext e26).keep1 e27 (fun k hk => (o13.ext e26).ne_blk b14 (by decide) k hk))
    obtain ⟨x_2, g_2, hx_3⟩ := own_may (A := B) i bools_len (by decide) ((q36.ext e28).ext x9)
    obtain ⟨hx_4, hA_2, hc_2⟩ := hx_3 oM
    refine go ?_
    refine y_ix i hA_2 ?_
    refine y_lc (CellsL.at1 hc_2 0 rfl) ?_
    refine go ?_
    refine xl_may (P := Tryz.prog) (some 43) (j := 2) (b := true) (((!x_2)) = true) (.bool (!x_2)) (.pointer (some ⟨w.heap.size, 0, none⟩)) rfl rfl rfl (may_b ((!x_2)) true) (fun hp => ox_fieldAddr (b := w.heap.size) (o := 0) tF_26_0.h rfl ⟨rfl, rfl⟩) ?_
    have q37 := (q31.keep y1 (fun hb => hb.elim (fun _h => o11.ne_blk q31 (by decide) _ _h rfl) (fun _h => q30.ne_blk q31 (by decide) _ _h rfl)))
    have q38 := ((q37.ext e26).keep1 e27 ((q37.ext e26).ne b14 (by decide)))
    refine xl_may (P := Tryz.prog) (some 44) (j := 2) (b := true) (((!x_2)) = true) (.bool (!x_2)) (.slice s.lA s.lex.length s.lc) rfl rfl rfl (may_b ((!x_2)) true) (fun hp => ox_load (v := (.slice s.lA s.lex.length s.lc)) tA_22.h (if_pos (α := Value) (t := (.pointer (some ⟨w.heap.size, 0, none⟩))) (e := undef) hp) (((q38.ext e28).ext x9).cell rfl) ⟨rfl, rfl⟩) ?_
    refine xl_may (P := Tryz.prog) (some 45) (j := 2) (b := true) (((!x_2)) = true) (.bool (!x_2)) (.int .i64 ((i : Nat))) rfl rfl rfl (may_b ((!x_2)) true) (fun hp => ox_move (v := (.int .i64 ((i : Nat)))) rfl ⟨rfl, rfl⟩) ?_
    have x10 : Ext w w31 := (Ext.trans (Ext.trans (Ext.chg1 (Ext.trans (Chg.trans x7 y1 (fun b hb hl => hb.elim (fun hb => (absurd hl (by have _h := hloA b hb; omega))) (fun hb => (absurd hl (by have _h := hloB b hb; omega))))) e26) e27 (by omega)) e28) x9)
    obtain ⟨x_3, g_3, o_3, hx_5⟩ := row_may (A := s.lA) (cs := LR.cs) i LR.len (by decide) (RowA.ext hS.lex x10)
    refine xl_may (P := Tryz.prog) (some 46) (j := 2) (b := true) (((!x_2)) = true) (.bool (!x_2)) (.pointer (some ⟨g_3, o_3 + i * 8, none⟩)) rfl rfl rfl (may_b ((!x_2)) true) (fun hp => by have hp' := hp; (try simp only [Bool.or_eq_true, Bool.and_eq_true, decide_eq_true_eq, Bool.or_eq_false_iff, Bool.and_eq_false_iff, decide_eq_false_iff_not, Bool.not_eq_true', Bool.not_eq_false'] at hp'); exact ox_ixA (b := g_3) (o := o_3) (i := ((i : Nat))) i tE_22.h (hx_5 (by omega)).2.1 (if_pos (α := Value) (t := (.slice s.lA s.lex.length s.lc)) (e := undef) hp) (if_pos (α := Value) (t := (.int .i64 ((i : Nat)))) (e := undef) hp) rfl (by omega) ⟨rfl, rfl⟩) ?_
    refine xl_may (P := Tryz.prog) (some 47) (j := 2) (b := true) (((!x_2)) = true) (.bool (!x_2)) (.pointer (some ⟨g_3, o_3 + i * 8 + 1, none⟩)) rfl rfl rfl (may_b ((!x_2)) true) (fun hp => ox_fieldAddr (b := g_3) (o := (o_3 + i * 8)) tF_66_1.h (if_pos (α := Value) (t := (.pointer (some ⟨g_3, o_3 + i * 8, none⟩))) (e := undef) hp) ⟨rfl, rfl⟩) ?_
    refine xl_may (P := Tryz.prog) (some 48) (j := 2) (b := true) (((!x_2)) = true) (.bool (!x_2)) (.bool x_3.trivia) rfl rfl rfl (may_b ((!x_2)) true) (fun hp => by have hp' := hp; (try simp only [Bool.or_eq_true, Bool.and_eq_true, decide_eq_true_eq, Bool.or_eq_false_iff, Bool.and_eq_false_iff, decide_eq_false_iff_not, Bool.not_eq_true', Bool.not_eq_false'] at hp'); exact ox_load (v := (.bool x_3.trivia)) tA_4.h (if_pos (α := Value) (t := (.pointer (some ⟨g_3, o_3 + i * 8 + 1, none⟩))) (e := undef) hp) (CellsL.at1 (hx_5 (by omega)).2.2 1 rfl) ⟨rfl, rfl⟩) ?_
    refine xl_may (P := Tryz.prog) (some 49) (j := 2) (b := true) (((!x_2)) = true) (.bool (!x_2)) (.bool (!x_3.trivia)) rfl rfl rfl (may_b ((!x_2)) true) (fun hp => ox_not (b := x_3.trivia) (if_pos (α := Value) (t := (.bool x_3.trivia)) (e := undef) hp) ⟨rfl, rfl⟩) ?_
    refine yOp (ox_pick_and (a := ((!x_2))) (b := ((!x_3.trivia))) rfl (fun ha => (if_pos (α := Value) (t := (.bool (!x_3.trivia))) (e := undef) ha)) rfl ?_)
    refine go ?_
    refine xc_cond (b := (((!x_2)) && ((!x_3.trivia)))) rfl (fun h3 => ?_) (fun h3 => ?_)
    ·
     have h3' := bS h3
     refine go ?_
     refine yOp (ox_mkStruct (ps := [(0, (.int .i64 72)), (1, (.int .i64 ((i : Nat))))]) (cs := #[(.int .i64 72), (.int .i64 ((i : Nat))), (.string (⟨#[]⟩))]) tZ_75.h tP_75.h rfl (by kernel_rfl) ?_)
     have q39 := (hb2.keep e25 (fun _h => hoA.ne_blk hb2 (by decide) _ _h rfl))
     have q40 := (q39.keep y1 (fun hb => hb.elim (fun _h => o11.ne_blk q39 (by decide) _ _h rfl) (fun _h => q30.ne_blk q39 (by decide) _ _h rfl)))
     have q41 := ((q40.ext e26).keep1 e27 ((q40.ext e26).ne b14 (by decide)))
     refine y_st ((q41.ext e28).ext x9) ?_
     intro w32 e30 z29 b17
     replace b17 : Blk w32 w1.heap.size #[(.int .i64 72), (.int .i64 ((i : Nat))), (.string (⟨#[]⟩))] 75 := blk_full b17 rfl
     refine go ?_
     change leaves _ _ _ _ _ _ _
     refine leaves_nil (n := 55) (rs := [.cell 2 75]) (vs := [.agg #[(.int .i64 72), (.int .i64 ((i : Nat))), (.string (⟨#[]⟩))]]) rfl ⟨⟨by decide, w1.heap.size, 0, 3, [(.int .i64 72), (.int .i64 ((i : Nat))), (.string (⟨#[]⟩))], rfl, tA_75.h, tS_75.h, rfl, ⟨b17.cell rfl, b17.cell rfl, b17.cell rfl, trivial⟩, rfl⟩, trivial⟩ ?_
     have x11 : Ext w w32 := (Ext.chg1 x10 e30 (by omega))
     exact ⟨(show Value.agg #[(.int .i64 72), (.int .i64 ((i : Nat))), (.string (⟨#[]⟩))] = faultV _ _ from by rw [reachedE_rules h1 (hq.trans (unR_hit hx_4 (map_get (f := LR.trivia) (hx_5 (by omega)).1) h3')) (by omega)] <;> rfl), x11⟩
    ·
     have h3' := bS h3
     refine go ?_
     refine y_add ?_
     refine go ?_
     exact ⟨rfl, s.lex.length - (i + 1), by omega, i + 1, by omega, (by omega), (hq.trans (unR_next hx_4 (map_get (f := LR.trivia) (hx_5 (by omega)).1) (by intro hh; rcases h3' with h9 | h9; rw [hh.1] at h9; cases h9; rw [hh.2] at h9; cases h9))), rfl, rfl, rfl, rfl, vW, x9⟩
   ·
    refine go ?_
    refine yOp (ox_mkStruct (ps := []) (cs := #[(.int .i64 0), (.int .i64 0), (.string (⟨#[]⟩))]) tZ_75.h tP_75.h rfl (by kernel_rfl) ?_)
    have q42 := (hb2.keep e25 (fun _h => hoA.ne_blk hb2 (by decide) _ _h rfl))
    have q43 := (q42.keep y1 (fun hb => hb.elim (fun _h => o11.ne_blk q42 (by decide) _ _h rfl) (fun _h => q30.ne_blk q42 (by decide) _ _h rfl)))
    have q44 := ((q43.ext e26).keep1 e27 ((q43.ext e26).ne b14 (by decide)))
    refine y_st ((q44.ext e28).ext x9) ?_
    intro w33 e31 z30 b18
    replace b18 : Blk w33 w1.heap.size #[(.int .i64 0), (.int .i64 0), (.string (⟨#[]⟩))] 75 := blk_full b18 rfl
    refine go ?_
    change leaves _ _ _ _ _ _ _
    refine leaves_nil (n := 55) (rs := [.cell 2 75]) (vs := [.agg #[(.int .i64 0), (.int .i64 0), (.string (⟨#[]⟩))]]) rfl ⟨⟨by decide, w1.heap.size, 0, 3, [(.int .i64 0), (.int .i64 0), (.string (⟨#[]⟩))], rfl, tA_75.h, tS_75.h, rfl, ⟨b18.cell rfl, b18.cell rfl, b18.cell rfl, trivial⟩, rfl⟩, trivial⟩ ?_
    have x12 : Ext w w33 := (Ext.chg1 (Ext.trans (Ext.trans (Ext.chg1 (Ext.trans (Chg.trans x7 y1 (fun b hb hl => hb.elim (fun hb => (absurd hl (by have _h := hloA b hb; omega))) (fun hb => (absurd hl (by have _h := hloB b hb; omega))))) e26) e27 (by omega)) e28) x9) e31 (by omega))
    exact ⟨(show Value.agg #[(.int .i64 0), (.int .i64 0), (.string (⟨#[]⟩))] = faultV _ _ from by rw [reachedE_ok h1 (hq.trans (by rw [List.drop_of_length_le (by omega)]; cases s.g.triv.drop i <;> rfl))] <;> rfl), x12⟩
theorem stepS_len (add most : Int) (τ : Sym → Int) : ∀ (l : List P2) (h : List Int) (g : Bool), (stepS add most τ l h g).1.length = h.length
  | [], h, g => rfl
  | p :: r, h, g => by
    simp only [stepS]; split
    · rw [stepS_len add most τ r]; simp
    · exact stepS_len add most τ r h g
theorem sumsG_len {add most : Int} {τ : Sym → Int} {g : GD} (hG : GoodG g) : (sumsG add most τ g).length = g.names := fixN_inv (P := fun h => h.length = g.names) (fun h hh => (stepS_len add most τ _ h false).trans hh) _ _ List.length_replicate
def fullR : List Bool → List Int → Nat → Int
  | b :: bs, n :: ns, i => if b = true ∧ 256 < n then (i : Nat) else fullR bs ns (i + 1)
  | _, _, _ => -1
theorem fullR_hit {a : List Bool} {b : List Int} {i : Nat} {r : Bool} {t : Int} (ha : a[i]? = some r) (hb : b[i]? = some t) (h : r = true ∧ 256 < t) : fullR (a.drop i) (b.drop i) i = (i : Nat) := by rw [drop_get ha, drop_get hb, fullR, if_pos h]
theorem fullR_next {a : List Bool} {b : List Int} {i : Nat} {r : Bool} {t : Int} (ha : a[i]? = some r) (hb : b[i]? = some t) (h : ¬ (r = true ∧ 256 < t)) : fullR (a.drop i) (b.drop i) i = fullR (a.drop (i + 1)) (b.drop (i + 1)) (i + 1) := by rw [drop_get ha, drop_get hb, fullR, if_neg h]
def checkE (g : GD) : Int × Int :=
  if longG g = true then (2, 0) else if (indG g).1 ≠ 0 then indG g else if (reachedE g).1 ≠ 0 then reachedE g
  else if 0 ≤ idxO false (madeG (fun _ => true) g) 0 then (73, idxO false (madeG (fun _ => true) g) 0)
  else if 0 ≤ fullR (madeG (fun _ => false) g) (sumsG 1 256 (fun _ => 257) g) 0 then (6, fullR (madeG (fun _ => false) g) (sumsG 1 256 (fun _ => 257) g) 0) else (0, 0)
section
variable {g : GD}
theorem checkE_long (h : longG g = true) : checkE g = (2, 0) := by unfold checkE; rw [if_pos h]
theorem checkE_ind (h : longG g = false) (h1 : (indG g).1 ≠ 0) : checkE g = indG g := by unfold checkE; rw [if_neg (by rw [h]; decide), if_pos h1]
theorem checkE_reach (h : longG g = false) (h1 : ¬ ((indG g).1 ≠ 0)) (h2 : (reachedE g).1 ≠ 0) : checkE g = reachedE g := by unfold checkE; rw [if_neg (by rw [h]; decide), if_neg h1, if_pos h2]
theorem checkE_made (h : longG g = false) (h1 : ¬ ((indG g).1 ≠ 0)) (h2 : ¬ ((reachedE g).1 ≠ 0)) (h3 : 0 ≤ idxO false (madeG (fun _ => true) g) 0) : checkE g = (73, idxO false (madeG (fun _ => true) g) 0) := by unfold checkE; rw [if_neg (by rw [h]; decide), if_neg h1, if_neg h2, if_pos h3]
theorem checkE_full (h : longG g = false) (h1 : ¬ ((indG g).1 ≠ 0)) (h2 : ¬ ((reachedE g).1 ≠ 0)) (h3 : ¬ (0 ≤ idxO false (madeG (fun _ => true) g) 0)) {r : Int} (h4 : fullR (madeG (fun _ => false) g) (sumsG 1 256 (fun _ => 257) g) 0 = r) (h5 : 0 ≤ r) : checkE g = (6, r) := by
  unfold checkE; rw [if_neg (by rw [h]; decide), if_neg h1, if_neg h2, if_neg h3, h4, if_pos h5]
theorem checkE_ok (h : longG g = false) (h1 : ¬ ((indG g).1 ≠ 0)) (h2 : ¬ ((reachedE g).1 ≠ 0)) (h3 : ¬ (0 ≤ idxO false (madeG (fun _ => true) g) 0)) (h4 : fullR (madeG (fun _ => false) g) (sumsG 1 256 (fun _ => 257) g) 0 = -1) : checkE g = (0, 0) := by
  unfold checkE; rw [if_neg (by rw [h]; decide), if_neg h1, if_neg h2, if_neg h3, h4, if_neg (by decide)]
end
instance pf_86 : PlF Tryz.prog 86 := ⟨by kernel_rfl⟩
instance pf_87 : PlF Tryz.prog 87 := ⟨by kernel_rfl⟩
instance pf_88 : PlF Tryz.prog 88 := ⟨by kernel_rfl⟩
instance pf_91 : PlF Tryz.prog 91 := ⟨by kernel_rfl⟩
instance pf_92 : PlF Tryz.prog 92 := ⟨by kernel_rfl⟩
instance pf_93 : PlF Tryz.prog 93 := ⟨by kernel_rfl⟩
instance pf_94 : PlF Tryz.prog 94 := ⟨by kernel_rfl⟩
instance tA_73 : AggF Tryz.prog 73 := ⟨by kernel_rfl⟩
instance tF_75_0 : FdT Tryz.prog 75 0 0 := ⟨by kernel_rfl⟩
theorem check_calls (s : SP) (w : World) (hS : SpR w s) :
    Calls Tryz.prog 62 #[(.agg #[(.slice s.lA s.lex.length s.lc), (.slice s.nA s.names.length s.nc), (.int .i64 s.start), (.slice s.pA s.prods.length s.pc)])] w (Ret (fun v w' => v = faultV (checkE s.g).1 (checkE s.g).2 ∧ Ext w w')) := by
 have hfn := hS.fn.le; have hfl := hS.fl.le
 refine calls_y (n := 53) Tryz.func62 ?_
 refine go ?_
 refine y_bx ?_
 intro w1 e1 z1 b1
 refine y_al ?_
 intro w2 e2 z2 b2
 refine go ?_
 refine y_lN (vs := [(.slice s.lA s.lex.length s.lc), (.slice s.nA s.names.length s.nc), (.int .i64 s.start), (.slice s.pA s.prods.length s.pc)]) ⟨(b1.ext e2).cell rfl, (b1.ext e2).cell rfl, (b1.ext e2).cell rfl, (b1.ext e2).cell rfl, trivial⟩ ?_
 have x1 : Ext w w2 := (Ext.trans e1 e2)
 refine yCa (ret_mono (long_calls s w2 (hS.ext x1)) ?_)
 rintro _ w3 ⟨rfl, e3⟩
 have he3 := e3.size
 refine go ?_
 refine xc_cond (b := (longG s.g)) rfl (fun h1 => ?_) (fun h1 => ?_)
 ·
  have h1' := bS h1
  refine go ?_
  refine yOp (ox_mkStruct (ps := [(0, (.int .i64 2))]) (cs := #[(.int .i64 2), (.int .i64 0), (.string (⟨#[]⟩))]) tZ_75.h tP_75.h rfl (by kernel_rfl) ?_)
  refine y_st (b2.ext e3) ?_
  intro w4 e4 z3 b3
  replace b3 : Blk w4 w1.heap.size #[(.int .i64 2), (.int .i64 0), (.string (⟨#[]⟩))] 75 := blk_full b3 rfl
  refine go ?_
  change leaves _ _ _ _ _ _ _
  refine leaves_nil (n := 53) (rs := [.cell 2 75]) (vs := [.agg #[(.int .i64 2), (.int .i64 0), (.string (⟨#[]⟩))]]) rfl ⟨⟨by decide, w1.heap.size, 0, 3, [(.int .i64 2), (.int .i64 0), (.string (⟨#[]⟩))], rfl, tA_75.h, tS_75.h, rfl, ⟨b3.cell rfl, b3.cell rfl, b3.cell rfl, trivial⟩, rfl⟩, trivial⟩ ?_
  have x2 : Ext w w4 := (Ext.chg1 (Ext.trans x1 e3) e4 (by omega))
  exact ⟨(show Value.agg #[(.int .i64 2), (.int .i64 0), (.string (⟨#[]⟩))] = faultV _ _ from by rw [checkE_long h1] <;> rfl), x2⟩
 ·
  have h1' := bS h1
  refine go ?_
  refine y_lN (vs := [(.slice s.lA s.lex.length s.lc), (.slice s.nA s.names.length s.nc), (.int .i64 s.start), (.slice s.pA s.prods.length s.pc)]) ⟨((b1.ext e2).ext e3).cell rfl, ((b1.ext e2).ext e3).cell rfl, ((b1.ext e2).ext e3).cell rfl, ((b1.ext e2).ext e3).cell rfl, trivial⟩ ?_
  have x3 : Ext w w3 := (Ext.trans x1 e3)
  refine yCa (ret_mono (indices_calls s w3 (hS.ext x3)) ?_)
  rintro _ w5 ⟨rfl, e5⟩
  have he5 := e5.size
  refine y_al ?_
  intro w6 e6 z4 b4
  refine y_st b4 ?_
  intro w7 e7 z5 b5
  replace b5 : Blk w7 w5.heap.size #[(.int .i64 ((indG s.g).1)), (.int .i64 ((indG s.g).2)), (.string (⟨#[]⟩))] 75 := blk_full b5 rfl
  refine go ?_
  refine y_ld b5 ?_
  refine go ?_
  refine y_if (fun h2 => ?_) (fun h2 => ?_)
  ·
   refine go ?_
   refine y_lN (vs := [(.int .i64 ((indG s.g).1)), (.int .i64 ((indG s.g).2)), (.string (⟨#[]⟩))]) ⟨b5.cell rfl, b5.cell rfl, b5.cell rfl, trivial⟩ ?_
   have q1 := ((((b2.ext e3).ext e5).ext e6).keep1 e7 (by have _q := b2.lt; omega))
   refine y_st q1 ?_
   intro w8 e8 z6 b6
   replace b6 : Blk w8 w1.heap.size #[(.int .i64 ((indG s.g).1)), (.int .i64 ((indG s.g).2)), (.string (⟨#[]⟩))] 75 := blk_full b6 rfl
   refine go ?_
   change leaves _ _ _ _ _ _ _
   refine leaves_nil (n := 53) (rs := [.cell 2 75]) (vs := [.agg #[(.int .i64 ((indG s.g).1)), (.int .i64 ((indG s.g).2)), (.string (⟨#[]⟩))]]) rfl ⟨⟨by decide, w1.heap.size, 0, 3, [(.int .i64 ((indG s.g).1)), (.int .i64 ((indG s.g).2)), (.string (⟨#[]⟩))], rfl, tA_75.h, tS_75.h, rfl, ⟨b6.cell rfl, b6.cell rfl, b6.cell rfl, trivial⟩, rfl⟩, trivial⟩ ?_
   have x4 : Ext w w8 := (Ext.chg1 (Ext.chg1 (Ext.trans (Ext.trans x3 e5) e6) e7 (by omega)) e8 (by omega))
   exact ⟨(show Value.agg #[(.int .i64 ((indG s.g).1)), (.int .i64 ((indG s.g).2)), (.string (⟨#[]⟩))] = faultV _ _ from by rw [checkE_ind h1 h2] <;> rfl), x4⟩
  ·
   have hG := good_of (g := s.g) (by omega)
   have hml := madeG_len (fun _ => true) s.g; have hnl := madeG_len (fun _ => false) s.g; have hsl := sumsG_len (add := 1) (most := 256) (τ := fun _ => 257) hG; have hgn : s.g.names = s.names.length := rfl
   have q2 := (((((b1.ext e2).ext e3).ext e5).ext e6).keep1 e7 (((((b1.ext e2).ext e3).ext e5).ext e6).ne b4 (by decide)))
   refine go ?_
   refine y_lN (vs := [(.slice s.lA s.lex.length s.lc), (.slice s.nA s.names.length s.nc), (.int .i64 s.start), (.slice s.pA s.prods.length s.pc)]) ⟨q2.cell rfl, q2.cell rfl, q2.cell rfl, q2.cell rfl, trivial⟩ ?_
   have x5 : Ext w w7 := (Ext.chg1 (Ext.trans (Ext.trans x3 e5) e6) e7 (by omega))
   refine yCa (ret_mono (reached_calls s w7 (hS.ext x5) hG) ?_)
   rintro _ w9 ⟨rfl, e9⟩
   have he9 := e9.size
   refine y_al ?_
   intro w10 e10 z7 b7
   refine y_st b7 ?_
   intro w11 e11 z8 b8
   replace b8 : Blk w11 w9.heap.size #[(.int .i64 ((reachedE s.g).1)), (.int .i64 ((reachedE s.g).2)), (.string (⟨#[]⟩))] 75 := blk_full b8 rfl
   refine go ?_
   refine y_ld b8 ?_
   refine go ?_
   refine y_if (fun h3 => ?_) (fun h3 => ?_)
   ·
    refine go ?_
    refine y_lN (vs := [(.int .i64 ((reachedE s.g).1)), (.int .i64 ((reachedE s.g).2)), (.string (⟨#[]⟩))]) ⟨b8.cell rfl, b8.cell rfl, b8.cell rfl, trivial⟩ ?_
    have q3 := ((((b2.ext e3).ext e5).ext e6).keep1 e7 (by have _q := b2.lt; omega))
    have q4 := (((q3.ext e9).ext e10).keep1 e11 (by have _q := b2.lt; omega))
    refine y_st q4 ?_
    intro w12 e12 z9 b9
    replace b9 : Blk w12 w1.heap.size #[(.int .i64 ((reachedE s.g).1)), (.int .i64 ((reachedE s.g).2)), (.string (⟨#[]⟩))] 75 := blk_full b9 rfl
    refine go ?_
    change leaves _ _ _ _ _ _ _
    refine leaves_nil (n := 53) (rs := [.cell 2 75]) (vs := [.agg #[(.int .i64 ((reachedE s.g).1)), (.int .i64 ((reachedE s.g).2)), (.string (⟨#[]⟩))]]) rfl ⟨⟨by decide, w1.heap.size, 0, 3, [(.int .i64 ((reachedE s.g).1)), (.int .i64 ((reachedE s.g).2)), (.string (⟨#[]⟩))], rfl, tA_75.h, tS_75.h, rfl, ⟨b9.cell rfl, b9.cell rfl, b9.cell rfl, trivial⟩, rfl⟩, trivial⟩ ?_
    have x6 : Ext w w12 := (Ext.chg1 (Ext.chg1 (Ext.trans (Ext.trans x5 e9) e10) e11 (by omega)) e12 (by omega))
    exact ⟨(show Value.agg #[(.int .i64 ((reachedE s.g).1)), (.int .i64 ((reachedE s.g).2)), (.string (⟨#[]⟩))] = faultV _ _ from by rw [checkE_reach h1 h2 h3] <;> rfl), x6⟩
   ·
    have q5 := (((q2.ext e9).ext e10).keep1 e11 (((q2.ext e9).ext e10).ne b7 (by decide)))
    refine go ?_
    refine y_lN (vs := [(.slice s.lA s.lex.length s.lc), (.slice s.nA s.names.length s.nc), (.int .i64 s.start), (.slice s.pA s.prods.length s.pc)]) ⟨q5.cell rfl, q5.cell rfl, q5.cell rfl, q5.cell rfl, trivial⟩ ?_
    have x7 : Ext w w11 := (Ext.chg1 (Ext.trans (Ext.trans x5 e9) e10) e11 (by omega))
    refine yCa (ret_mono (made_calls s (fun _ => true) 91 [] w11 (hS.ext x7) hG pf_91.h (fun x W => check1_calls x W)) ?_)
    rintro _ w13 ⟨A1, rfl, o1, lo1, e13⟩
    have he13 := e13.size
    refine yCa (ret_mono ((by have h := indexB (madeG (fun _ => true) s.g) A1 s.names.length false w13 (Own.rowO o1) (by rw [madeG_len]; exact hfn); rw [madeG_len] at h; exact h)) ?_)
    rintro _ w14 ⟨rfl, e14⟩
    have he14 := e14.size
    refine go ?_
    refine y_if (fun h4 => ?_) (fun h4 => ?_)
    ·
     refine go ?_
     refine yOp (ox_mkStruct (ps := [(0, (.int .i64 73)), (1, (.int .i64 (idxO false (madeG (fun _ => true) s.g) 0)))]) (cs := #[(.int .i64 73), (.int .i64 (idxO false (madeG (fun _ => true) s.g) 0)), (.string (⟨#[]⟩))]) tZ_75.h tP_75.h rfl (by kernel_rfl) ?_)
     have q6 := ((((b2.ext e3).ext e5).ext e6).keep1 e7 (by have _q := b2.lt; omega))
     have q7 := (((q6.ext e9).ext e10).keep1 e11 (by have _q := b2.lt; omega))
     refine y_st ((q7.ext e13).ext e14) ?_
     intro w15 e15 z10 b10
     replace b10 : Blk w15 w1.heap.size #[(.int .i64 73), (.int .i64 (idxO false (madeG (fun _ => true) s.g) 0)), (.string (⟨#[]⟩))] 75 := blk_full b10 rfl
     refine go ?_
     change leaves _ _ _ _ _ _ _
     refine leaves_nil (n := 53) (rs := [.cell 2 75]) (vs := [.agg #[(.int .i64 73), (.int .i64 (idxO false (madeG (fun _ => true) s.g) 0)), (.string (⟨#[]⟩))]]) rfl ⟨⟨by decide, w1.heap.size, 0, 3, [(.int .i64 73), (.int .i64 (idxO false (madeG (fun _ => true) s.g) 0)), (.string (⟨#[]⟩))], rfl, tA_75.h, tS_75.h, rfl, ⟨b10.cell rfl, b10.cell rfl, b10.cell rfl, trivial⟩, rfl⟩, trivial⟩ ?_
     have x8 : Ext w w15 := (Ext.chg1 (Ext.trans (Ext.trans x7 e13) e14) e15 (by omega))
     exact ⟨(show Value.agg #[(.int .i64 73), (.int .i64 (idxO false (madeG (fun _ => true) s.g) 0)), (.string (⟨#[]⟩))] = faultV _ _ from by rw [checkE_made h1 h2 h3 h4] <;> rfl), x8⟩
    ·
     refine go ?_
     refine y_lN (vs := [(.slice s.lA s.lex.length s.lc), (.slice s.nA s.names.length s.nc), (.int .i64 s.start), (.slice s.pA s.prods.length s.pc)]) ⟨((q5.ext e13).ext e14).cell rfl, ((q5.ext e13).ext e14).cell rfl, ((q5.ext e13).ext e14).cell rfl, ((q5.ext e13).ext e14).cell rfl, trivial⟩ ?_
     have x9 : Ext w w14 := (Ext.trans (Ext.trans x7 e13) e14)
     refine yCa (ret_mono (sums_calls s 1 256 (fun _ => 257) 93 [] w14 (hS.ext x9) hG (by omega) (by omega) pf_93.h (fun _ => by omega) (fun x W => check2_calls x W)) ?_)
     rintro _ w16 ⟨A2, rfl, o2, lo2, e16⟩
     have he16 := e16.size
     refine go ?_
     refine y_lN (vs := [(.slice s.lA s.lex.length s.lc), (.slice s.nA s.names.length s.nc), (.int .i64 s.start), (.slice s.pA s.prods.length s.pc)]) ⟨(((q5.ext e13).ext e14).ext e16).cell rfl, (((q5.ext e13).ext e14).ext e16).cell rfl, (((q5.ext e13).ext e14).ext e16).cell rfl, (((q5.ext e13).ext e14).ext e16).cell rfl, trivial⟩ ?_
     have x10 : Ext w w16 := (Ext.trans x9 e16)
     refine yCa (ret_mono (nullable_calls s w16 (hS.ext x10) hG) ?_)
     rintro _ w17 ⟨A3, rfl, o3, lo3, e17⟩
     have he17 := e17.size
     refine go ?_
     refine xc_loopN (fun m_ f_ Wx => ∃ (i : Nat), m_ = s.names.length - i ∧ (i ≤ s.names.length) ∧ (fullR (madeG (fun _ => false) s.g) (sumsG 1 256 (fun _ => 257) s.g) 0 = fullR ((madeG (fun _ => false) s.g).drop i) ((sumsG 1 256 (fun _ => 257) s.g).drop i) i) ∧ f_ 2 = (.pointer (some ⟨w1.heap.size, 0, none⟩)) ∧ f_ 6 = (.slice A2 s.names.length s.names.length) ∧ f_ 34 = (.slice A3 s.names.length s.names.length) ∧ f_ 35 = (.int .i64 (((s.names.length : Nat) : Int))) ∧ f_ 36 = (.int .i64 ((i : Nat))) ∧ Ext w17 Wx) (s.names.length) ?_ ?_
     ·
      exact ⟨0, (by omega), (by omega), rfl, rfl, rfl, rfl, rfl, vW, (Chg.refl _ _)⟩
     ·
      rintro m_ f1 w18 ⟨i, hm_f1, hi, hq, g2_f1, g6_f1, g34_f1, g35_f1, g36_f1, x11⟩
      have hx11 := x11.size
      rw [← usf g2_f1, ← usf g6_f1, ← usf g34_f1, ← usf g35_f1, ← usf g36_f1]
      refine go ?_
      refine y_if (fun h5 => ?_) (fun h5 => ?_)
      ·
       obtain ⟨x_1, g_1, hx_1⟩ := own_may (A := A3) i bools_len (by decide) (o3.ext x11)
       obtain ⟨hx_2, hA_1, hc_1⟩ := hx_1 oM
       refine go ?_
       refine y_ix i hA_1 ?_
       refine y_lc (CellsL.at1 hc_1 0 rfl) ?_
       refine go ?_
       refine xl_may (P := Tryz.prog) (some 43) (j := 1) (b := true) (x_1 = true) (.bool x_1) (.slice A2 s.names.length s.names.length) rfl rfl rfl (may_b x_1 true) (fun hp => ox_move (v := (.slice A2 s.names.length s.names.length)) rfl ⟨rfl, rfl⟩) ?_
       refine xl_may (P := Tryz.prog) (some 44) (j := 1) (b := true) (x_1 = true) (.bool x_1) (.int .i64 ((i : Nat))) rfl rfl rfl (may_b x_1 true) (fun hp => ox_move (v := (.int .i64 ((i : Nat)))) rfl ⟨rfl, rfl⟩) ?_
       obtain ⟨x_2, g_2, hx_3⟩ := own_may (A := A2) i ints_len (by decide) ((o2.ext e17).ext x11)
       refine xl_may (P := Tryz.prog) (some 45) (j := 1) (b := true) (x_1 = true) (.bool x_1) (.pointer (some ⟨g_2, 0 + i * 1, none⟩)) rfl rfl rfl (may_b x_1 true) (fun hp => by have hp' := hp; (try simp only [Bool.or_eq_true, Bool.and_eq_true, decide_eq_true_eq, Bool.or_eq_false_iff, Bool.and_eq_false_iff, decide_eq_false_iff_not, Bool.not_eq_true', Bool.not_eq_false'] at hp'); exact ox_ixA (b := g_2) (o := 0) (i := ((i : Nat))) i tE_27.h (hx_3 (by omega)).2.1 (if_pos (α := Value) (t := (.slice A2 s.names.length s.names.length)) (e := undef) hp) (if_pos (α := Value) (t := (.int .i64 ((i : Nat)))) (e := undef) hp) rfl (by omega) ⟨rfl, rfl⟩) ?_
       refine xl_may (P := Tryz.prog) (some 46) (j := 1) (b := true) (x_1 = true) (.bool x_1) (.int .i64 x_2) rfl rfl rfl (may_b x_1 true) (fun hp => by have hp' := hp; (try simp only [Bool.or_eq_true, Bool.and_eq_true, decide_eq_true_eq, Bool.or_eq_false_iff, Bool.and_eq_false_iff, decide_eq_false_iff_not, Bool.not_eq_true', Bool.not_eq_false'] at hp'); exact ox_load (v := (.int .i64 x_2)) tA_3.h (if_pos (α := Value) (t := (.pointer (some ⟨g_2, 0 + i * 1, none⟩))) (e := undef) hp) (CellsL.at1 (hx_3 (by omega)).2.2 0 rfl) ⟨rfl, rfl⟩) ?_
       refine xl_may (P := Tryz.prog) (some 47) (j := 1) (b := true) (x_1 = true) (.bool x_1) (.bool (decide ((256 : Int) < x_2))) rfl rfl rfl (may_b x_1 true) (fun hp => ox_gtr (k := .i64) (a := x_2) (b := 256) (if_pos (α := Value) (t := (.int .i64 x_2)) (e := undef) hp) rfl ⟨rfl, rfl⟩) ?_
       refine yOp (ox_pick_and (a := x_1) (b := ((decide ((256 : Int) < x_2)))) rfl (fun ha => (if_pos (α := Value) (t := (.bool (decide ((256 : Int) < x_2)))) (e := undef) ha)) rfl ?_)
       refine go ?_
       refine xc_cond (b := (x_1 && ((decide ((256 : Int) < x_2))))) rfl (fun h6 => ?_) (fun h6 => ?_)
       ·
        have h6' := bS h6
        refine go ?_
        refine yOp (ox_mkStruct (ps := [(0, (.int .i64 6)), (1, (.int .i64 ((i : Nat))))]) (cs := #[(.int .i64 6), (.int .i64 ((i : Nat))), (.string (⟨#[]⟩))]) tZ_75.h tP_75.h rfl (by kernel_rfl) ?_)
        have q8 := ((((b2.ext e3).ext e5).ext e6).keep1 e7 (by have _q := b2.lt; omega))
        have q9 := (((q8.ext e9).ext e10).keep1 e11 (by have _q := b2.lt; omega))
        have q10 := ((((q9.ext e13).ext e14).ext e16).ext e17)
        refine y_st (q10.ext x11) ?_
        intro w19 e18 z11 b11
        replace b11 : Blk w19 w1.heap.size #[(.int .i64 6), (.int .i64 ((i : Nat))), (.string (⟨#[]⟩))] 75 := blk_full b11 rfl
        refine go ?_
        change leaves _ _ _ _ _ _ _
        refine leaves_nil (n := 53) (rs := [.cell 2 75]) (vs := [.agg #[(.int .i64 6), (.int .i64 ((i : Nat))), (.string (⟨#[]⟩))]]) rfl ⟨⟨by decide, w1.heap.size, 0, 3, [(.int .i64 6), (.int .i64 ((i : Nat))), (.string (⟨#[]⟩))], rfl, tA_75.h, tS_75.h, rfl, ⟨b11.cell rfl, b11.cell rfl, b11.cell rfl, trivial⟩, rfl⟩, trivial⟩ ?_
        have x12 : Ext w w19 := (Ext.chg1 (Ext.trans (Ext.trans x10 e17) x11) e18 (by omega))
        exact ⟨(show Value.agg #[(.int .i64 6), (.int .i64 ((i : Nat))), (.string (⟨#[]⟩))] = faultV _ _ from by rw [checkE_full h1 h2 h3 h4 (hq.trans (fullR_hit hx_2 (hx_3 (by rw [sumsG_len hG]; exact (by omega : i < s.names.length))).1 (by exact ⟨by simp_all, by omega⟩))) (by omega)] <;> rfl), x12⟩
       ·
        have h6' := bS h6
        refine go ?_
        refine y_add ?_
        refine go ?_
        exact ⟨rfl, s.names.length - (i + 1), by omega, i + 1, by omega, (by omega), (hq.trans (fullR_next hx_2 (hx_3 (by rw [sumsG_len hG]; exact (by omega : i < s.names.length))).1 (by rcases h6' with h9 | h9; simp_all; omega))), rfl, rfl, rfl, rfl, vW, x11⟩
      ·
       refine go ?_
       refine yOp (ox_mkStruct (ps := []) (cs := #[(.int .i64 0), (.int .i64 0), (.string (⟨#[]⟩))]) tZ_75.h tP_75.h rfl (by kernel_rfl) ?_)
       have q11 := ((((b2.ext e3).ext e5).ext e6).keep1 e7 (by have _q := b2.lt; omega))
       have q12 := (((q11.ext e9).ext e10).keep1 e11 (by have _q := b2.lt; omega))
       have q13 := ((((q12.ext e13).ext e14).ext e16).ext e17)
       refine y_st (q13.ext x11) ?_
       intro w20 e19 z12 b12
       replace b12 : Blk w20 w1.heap.size #[(.int .i64 0), (.int .i64 0), (.string (⟨#[]⟩))] 75 := blk_full b12 rfl
       refine go ?_
       change leaves _ _ _ _ _ _ _
       refine leaves_nil (n := 53) (rs := [.cell 2 75]) (vs := [.agg #[(.int .i64 0), (.int .i64 0), (.string (⟨#[]⟩))]]) rfl ⟨⟨by decide, w1.heap.size, 0, 3, [(.int .i64 0), (.int .i64 0), (.string (⟨#[]⟩))], rfl, tA_75.h, tS_75.h, rfl, ⟨b12.cell rfl, b12.cell rfl, b12.cell rfl, trivial⟩, rfl⟩, trivial⟩ ?_
       have x13 : Ext w w20 := (Ext.chg1 (Ext.trans (Ext.trans x10 e17) x11) e19 (by omega))
       exact ⟨(show Value.agg #[(.int .i64 0), (.int .i64 0), (.string (⟨#[]⟩))] = faultV _ _ from by rw [checkE_ok h1 h2 h3 h4 (hq.trans (by rw [List.drop_of_length_le (by omega)] <;> rfl))] <;> rfl), x13⟩
end Go.Proofs.YtnnmdkglgnlenaaGreatDoor
