/-
  Part 7 of the proof: texts Sb Sc Se Sf Sx Sy Sh. No conditions.
-/
import Derived.Test.YtnnmdkglgnlenaaGreatDoorRows
import Derived.Test.YtnnmdkglgnlenaaGreatDoorPbf
set_option linter.unusedVariables false
set_option linter.unusedSimpArgs false
set_option maxRecDepth 100000
set_option maxHeartbeats 4000000
namespace Go.Proofs.YtnnmdkglgnlenaaGreatDoor
open Go Go.RowKit Go.Vx
theorem row_nil {α : Type} {w : World} {cs : α → List Value} {k : Nat} {l : List α} (hk : ∀ a, (cs a).length = k) (h0 : 0 < k) (h : RowA w none (l.flatMap cs)) : l = [] := by
  cases l with
  | nil => rfl
  | cons x l =>
    have h1 : (x :: l).flatMap cs = [] := h
    have h2 := fm_len hk (x :: l)
    rw [h1] at h2; simp only [List.length_nil, List.length_cons, Nat.add_mul, Nat.one_mul] at h2; omega
def idxO {α : Type} [DecidableEq α] (y : α) : List α → Nat → Int
  | [], _ => -1
  | x :: l, k => if y = x then (k : Nat) else idxO y l (k + 1)
theorem idxO_hit {α : Type} [DecidableEq α] {y x : α} {l : List α} {i : Nat} (h : l[i]? = some x) (e : y = x) : idxO y (l.drop i) i = (i : Nat) := by rw [drop_get h, idxO, if_pos e]
theorem idxO_next {α : Type} [DecidableEq α] {y x : α} {l : List α} {i : Nat} (h : l[i]? = some x) (e : ¬ (y = x)) : idxO y (l.drop i) i = idxO y (l.drop (i + 1)) (i + 1) := by rw [drop_get h, idxO, if_neg e]
theorem idxO_end {α : Type} [DecidableEq α] {y : α} {l : List α} {i : Nat} (h : l.length ≤ i) : idxO y (l.drop i) i = -1 := by rw [List.drop_of_length_le h, idxO]
theorem hmix : Tryz.prog.follows .mixedOrders = true := by kernel_rfl
theorem pf_142 : plainF Tryz.prog 142 = true := by kernel_rfl
theorem pf_143 : plainF Tryz.prog 143 = true := by kernel_rfl
theorem tA_32 : isAggT Tryz.prog 32 = some true := by kernel_rfl
theorem tA_37 : isAggT Tryz.prog 37 = some true := by kernel_rfl
theorem tA_4 : isAggT Tryz.prog 4 = some false := by kernel_rfl
theorem tE_144 : sliceT Tryz.prog 144 = some (4, 1, 1, (.bool false)) := by kernel_rfl
theorem tE_22 : sliceT Tryz.prog 22 = some (66, 8, 88, (.agg #[(.string (⟨#[]⟩)), (.bool false), (.int .i64 0), (.int .i64 0), (.int .i64 0), (.int .i64 0), (.int .i64 0), (.slice none 0 0)])) := by kernel_rfl
theorem tE_23 : sliceT Tryz.prog 23 = some (9, 1, 16, (.string (⟨#[]⟩))) := by kernel_rfl
theorem tE_24 : sliceT Tryz.prog 24 = some (37, 2, 32, (.agg #[(.int .i64 0), (.slice none 0 0)])) := by kernel_rfl
theorem tE_33 : sliceT Tryz.prog 33 = some (32, 2, 16, (.agg #[(.int .i64 0), (.int .i64 0)])) := by kernel_rfl
theorem tE_39 : sliceT Tryz.prog 39 = some (42, 2, 16, (.agg #[(.int .i64 0), (.int .i64 0)])) := by kernel_rfl
theorem tE_62 : sliceT Tryz.prog 62 = some (64, 6, 64, (.agg #[(.int .i64 0), (.int .i64 0), (.int .i64 0), (.int .i64 0), (.int .i64 0), (.slice none 0 0)])) := by kernel_rfl
theorem tS_32 : sizeT Tryz.prog 32 = some 2 := by kernel_rfl
theorem tS_37 : sizeT Tryz.prog 37 = some 2 := by kernel_rfl
theorem tU_144 : Tryz.prog.underlying 144 = some (.slice 4) := by kernel_rfl
theorem tU_22 : Tryz.prog.underlying 22 = some (.slice 66) := by kernel_rfl
theorem tU_23 : Tryz.prog.underlying 23 = some (.slice 9) := by kernel_rfl
theorem tU_24 : Tryz.prog.underlying 24 = some (.slice 37) := by kernel_rfl
theorem tU_33 : Tryz.prog.underlying 33 = some (.slice 32) := by kernel_rfl
theorem tU_39 : Tryz.prog.underlying 39 = some (.slice 42) := by kernel_rfl
theorem tU_4 : Tryz.prog.underlying 4 = some (.bool) := by kernel_rfl
theorem tU_62 : Tryz.prog.underlying 62 = some (.slice 64) := by kernel_rfl
theorem cloneItm (l : List Itm) (A : Option Addr) (c : Nat) (w : World) (hA : RowA w A (l.flatMap Itm.cs)) (hn : l.length * 16 ≤ 140737488355328) :
    Calls Tryz.prog 46 #[(.slice A l.length c)] w (Ret (fun v w' => ∃ A' c', v = .slice A' l.length c' ∧ NewRow w w' 42 2 Itm.cs l A' c' ∧ (A = none ↔ A' = none) ∧ Ext w w')) := by
  refine calls_xc (n := 8) (f := fun s_ => [(.slice A l.length c)].getD s_ undef) Tryz.func46 rfl rfl (by simp) (fun s_ => by simp) ?_
  refine xc_seq ?_
  refine xc_region ?_
  refine xl_op (P := Tryz.prog) (some 2) rfl rfl (ox_assign (v := (.slice none 0 0)) rfl ?_)
  refine xl_nil ?_
  refine xc_seq ?_
  refine xc_seq ?_
  refine xc_region ?_
  refine xl_op (P := Tryz.prog) (some 3) rfl rfl (ox_move (v := (.slice A l.length c)) rfl ?_)
  refine xl_op (P := Tryz.prog) (some 4) rfl rfl (ox_eqlSlice (A := A) (B := none) tU_39 rfl rfl (.inr rfl) ?_)
  refine xl_nil ?_
  refine xc_if (p := A = none) rfl (fun h1 => ?_) (fun h1 => ?_)
  · skip
    refine xc_seq ?_
    refine xc_region ?_
    refine xl_op (P := Tryz.prog) (some 2) rfl rfl (ox_assign (v := (.slice none 0 0)) rfl ?_)
    refine xl_nil ?_
    refine xc_ret ?_
    change leaves _ _ _ _ _ _ _
    refine leaves_nil (n := 8) (rs := [.tmp 2]) (vs := [(.slice none 0 0)]) rfl ⟨⟨by decide, rfl⟩, trivial⟩ ?_
    obtain rfl : l = [] := row_nil Itm.len (by decide) (by rw [h1] at hA; exact hA)
    exact ⟨none, 0, rfl, ⟨Vx.Own.nil _ _ _, fun k hk => by simp [Value.ownBlock] at hk⟩, by simp [h1], (Chg.refl _ _)⟩
  · skip
    refine xc_skip ?_
    refine xc_seq ?_
    refine xc_region ?_
    refine xl_op (P := Tryz.prog) (some 5) rfl rfl (ox_mkSlice (ps := []) (zs := #[]) (cs := #[]) tE_39 rfl (by decide) (by kernel_rfl) (by kernel_rfl) ?_)
    intro w1 e1 z1 b1
    replace b1 : Blk w1 w.heap.size #[] 42 := b1
    refine xl_op (P := Tryz.prog) (some 6) rfl rfl (ox_move (v := (.slice A l.length c)) rfl ?_)
    refine xl_op (P := Tryz.prog) (some 7) rfl rfl (ox_appR (l := ([])) (r := l) (cs := Itm.cs) rfl tE_39 rfl (by decide) Itm.len Itm.one (v := (.slice (some ⟨w.heap.size, 0, none⟩) 0 0)) rfl rfl (Vx.Own.lit (n := 0) (sz := 2) b1 rfl (by decide)) (RowA.ext hA e1) (by simp only [List.nil_append]; omega) (by decide) ?_)
    intro A1 c1 w2 o1 e2 at1 hc1
    have he2 := e2.size
    replace at1 : (Value.slice A1 (l).length c1).ownBlock = ((.slice (some ⟨w.heap.size, 0, none⟩) 0 0) : Value).ownBlock ∨ (Value.slice A1 (l).length c1).ownBlock = some w1.heap.size := at1
    replace o1 : Vx.Own w2 42 2 (.slice A1 (l).length c1) (l).length ((l).flatMap Itm.cs) := o1
    have low1 : ∀ _k, (Value.slice A1 (l).length c1).ownBlock = some _k → w.heap.size ≤ _k := fun _k _h => by rcases at1 with _e | _e <;> rw [_e] at _h; exact (fun _k _h => by simp [Value.ownBlock] at _h; omega) _k _h; exact (by cases _h; omega)
    refine xl_op (P := Tryz.prog) (some 2) rfl rfl (ox_assign (v := (.slice A1 ((l).length) c1)) rfl ?_)
    refine xl_nil ?_
    refine xc_ret ?_
    change leaves _ _ _ _ _ _ _
    refine leaves_nil (n := 8) (rs := [.tmp 2]) (vs := [(.slice A1 ((l).length) c1)]) rfl ⟨⟨by decide, rfl⟩, trivial⟩ ?_
    have x1 : Ext w w2 := (Chg.trans e1 e2 (fun b hb hl => (absurd hl (by have _h := (fun _k _h => by simp [Value.ownBlock] at _h; omega) b hb; omega))))
    exact ⟨A1, c1, rfl, ⟨o1, fun k hk => by have _h := low1 k hk; omega⟩, ⟨fun hh => absurd hh h1, fun hh => by subst hh; have _q := at1; simp [Value.ownBlock] at _q⟩, x1⟩
theorem cloneLR (l : List LR) (A : Option Addr) (c : Nat) (w : World) (hA : RowA w A (l.flatMap LR.cs)) (hn : l.length * 88 ≤ 140737488355328) :
    Calls Tryz.prog 81 #[(.slice A l.length c)] w (Ret (fun v w' => ∃ A' c', v = .slice A' l.length c' ∧ NewRow w w' 66 8 LR.cs l A' c' ∧ (A = none ↔ A' = none) ∧ Ext w w')) := by
  refine calls_xc (n := 8) (f := fun s_ => [(.slice A l.length c)].getD s_ undef) Tryz.func81 rfl rfl (by simp) (fun s_ => by simp) ?_
  refine xc_seq ?_
  refine xc_region ?_
  refine xl_op (P := Tryz.prog) (some 2) rfl rfl (ox_assign (v := (.slice none 0 0)) rfl ?_)
  refine xl_nil ?_
  refine xc_seq ?_
  refine xc_seq ?_
  refine xc_region ?_
  refine xl_op (P := Tryz.prog) (some 3) rfl rfl (ox_move (v := (.slice A l.length c)) rfl ?_)
  refine xl_op (P := Tryz.prog) (some 4) rfl rfl (ox_eqlSlice (A := A) (B := none) tU_22 rfl rfl (.inr rfl) ?_)
  refine xl_nil ?_
  refine xc_if (p := A = none) rfl (fun h1 => ?_) (fun h1 => ?_)
  · skip
    refine xc_seq ?_
    refine xc_region ?_
    refine xl_op (P := Tryz.prog) (some 2) rfl rfl (ox_assign (v := (.slice none 0 0)) rfl ?_)
    refine xl_nil ?_
    refine xc_ret ?_
    change leaves _ _ _ _ _ _ _
    refine leaves_nil (n := 8) (rs := [.tmp 2]) (vs := [(.slice none 0 0)]) rfl ⟨⟨by decide, rfl⟩, trivial⟩ ?_
    obtain rfl : l = [] := row_nil LR.len (by decide) (by rw [h1] at hA; exact hA)
    exact ⟨none, 0, rfl, ⟨Vx.Own.nil _ _ _, fun k hk => by simp [Value.ownBlock] at hk⟩, by simp [h1], (Chg.refl _ _)⟩
  · skip
    refine xc_skip ?_
    refine xc_seq ?_
    refine xc_region ?_
    refine xl_op (P := Tryz.prog) (some 5) rfl rfl (ox_mkSlice (ps := []) (zs := #[]) (cs := #[]) tE_22 rfl (by decide) (by kernel_rfl) (by kernel_rfl) ?_)
    intro w1 e1 z1 b1
    replace b1 : Blk w1 w.heap.size #[] 66 := b1
    refine xl_op (P := Tryz.prog) (some 6) rfl rfl (ox_move (v := (.slice A l.length c)) rfl ?_)
    refine xl_op (P := Tryz.prog) (some 7) rfl rfl (ox_appR (l := ([])) (r := l) (cs := LR.cs) rfl tE_22 rfl (by decide) LR.len LR.one (v := (.slice (some ⟨w.heap.size, 0, none⟩) 0 0)) rfl rfl (Vx.Own.lit (n := 0) (sz := 8) b1 rfl (by decide)) (RowA.ext hA e1) (by simp only [List.nil_append]; omega) (by decide) ?_)
    intro A1 c1 w2 o1 e2 at1 hc1
    have he2 := e2.size
    replace at1 : (Value.slice A1 (l).length c1).ownBlock = ((.slice (some ⟨w.heap.size, 0, none⟩) 0 0) : Value).ownBlock ∨ (Value.slice A1 (l).length c1).ownBlock = some w1.heap.size := at1
    replace o1 : Vx.Own w2 66 8 (.slice A1 (l).length c1) (l).length ((l).flatMap LR.cs) := o1
    have low1 : ∀ _k, (Value.slice A1 (l).length c1).ownBlock = some _k → w.heap.size ≤ _k := fun _k _h => by rcases at1 with _e | _e <;> rw [_e] at _h; exact (fun _k _h => by simp [Value.ownBlock] at _h; omega) _k _h; exact (by cases _h; omega)
    refine xl_op (P := Tryz.prog) (some 2) rfl rfl (ox_assign (v := (.slice A1 ((l).length) c1)) rfl ?_)
    refine xl_nil ?_
    refine xc_ret ?_
    change leaves _ _ _ _ _ _ _
    refine leaves_nil (n := 8) (rs := [.tmp 2]) (vs := [(.slice A1 ((l).length) c1)]) rfl ⟨⟨by decide, rfl⟩, trivial⟩ ?_
    have x1 : Ext w w2 := (Chg.trans e1 e2 (fun b hb hl => (absurd hl (by have _h := (fun _k _h => by simp [Value.ownBlock] at _h; omega) b hb; omega))))
    exact ⟨A1, c1, rfl, ⟨o1, fun k hk => by have _h := low1 k hk; omega⟩, ⟨fun hh => absurd hh h1, fun hh => by subst hh; have _q := at1; simp [Value.ownBlock] at _q⟩, x1⟩
theorem cloneStr (l : List ByteArray) (A : Option Addr) (c : Nat) (w : World) (hA : RowA w A (l.flatMap strs)) (hn : l.length * 16 ≤ 140737488355328) :
    Calls Tryz.prog 83 #[(.slice A l.length c)] w (Ret (fun v w' => ∃ A' c', v = .slice A' l.length c' ∧ NewRow w w' 9 1 strs l A' c' ∧ (A = none ↔ A' = none) ∧ Ext w w')) := by
  refine calls_xc (n := 8) (f := fun s_ => [(.slice A l.length c)].getD s_ undef) Tryz.func83 rfl rfl (by simp) (fun s_ => by simp) ?_
  refine xc_seq ?_
  refine xc_region ?_
  refine xl_op (P := Tryz.prog) (some 2) rfl rfl (ox_assign (v := (.slice none 0 0)) rfl ?_)
  refine xl_nil ?_
  refine xc_seq ?_
  refine xc_seq ?_
  refine xc_region ?_
  refine xl_op (P := Tryz.prog) (some 3) rfl rfl (ox_move (v := (.slice A l.length c)) rfl ?_)
  refine xl_op (P := Tryz.prog) (some 4) rfl rfl (ox_eqlSlice (A := A) (B := none) tU_23 rfl rfl (.inr rfl) ?_)
  refine xl_nil ?_
  refine xc_if (p := A = none) rfl (fun h1 => ?_) (fun h1 => ?_)
  · skip
    refine xc_seq ?_
    refine xc_region ?_
    refine xl_op (P := Tryz.prog) (some 2) rfl rfl (ox_assign (v := (.slice none 0 0)) rfl ?_)
    refine xl_nil ?_
    refine xc_ret ?_
    change leaves _ _ _ _ _ _ _
    refine leaves_nil (n := 8) (rs := [.tmp 2]) (vs := [(.slice none 0 0)]) rfl ⟨⟨by decide, rfl⟩, trivial⟩ ?_
    obtain rfl : l = [] := row_nil strs_len (by decide) (by rw [h1] at hA; exact hA)
    exact ⟨none, 0, rfl, ⟨Vx.Own.nil _ _ _, fun k hk => by simp [Value.ownBlock] at hk⟩, by simp [h1], (Chg.refl _ _)⟩
  · skip
    refine xc_skip ?_
    refine xc_seq ?_
    refine xc_region ?_
    refine xl_op (P := Tryz.prog) (some 5) rfl rfl (ox_mkSlice (ps := []) (zs := #[]) (cs := #[]) tE_23 rfl (by decide) (by kernel_rfl) (by kernel_rfl) ?_)
    intro w1 e1 z1 b1
    replace b1 : Blk w1 w.heap.size #[] 9 := b1
    refine xl_op (P := Tryz.prog) (some 6) rfl rfl (ox_move (v := (.slice A l.length c)) rfl ?_)
    refine xl_op (P := Tryz.prog) (some 7) rfl rfl (ox_appR (l := ([])) (r := l) (cs := strs) rfl tE_23 rfl (by decide) strs_len strs_one (v := (.slice (some ⟨w.heap.size, 0, none⟩) 0 0)) rfl rfl (Vx.Own.lit (n := 0) (sz := 1) b1 rfl (by decide)) (RowA.ext hA e1) (by simp only [List.nil_append]; omega) (by decide) ?_)
    intro A1 c1 w2 o1 e2 at1 hc1
    have he2 := e2.size
    replace at1 : (Value.slice A1 (l).length c1).ownBlock = ((.slice (some ⟨w.heap.size, 0, none⟩) 0 0) : Value).ownBlock ∨ (Value.slice A1 (l).length c1).ownBlock = some w1.heap.size := at1
    replace o1 : Vx.Own w2 9 1 (.slice A1 (l).length c1) (l).length ((l).flatMap strs) := o1
    have low1 : ∀ _k, (Value.slice A1 (l).length c1).ownBlock = some _k → w.heap.size ≤ _k := fun _k _h => by rcases at1 with _e | _e <;> rw [_e] at _h; exact (fun _k _h => by simp [Value.ownBlock] at _h; omega) _k _h; exact (by cases _h; omega)
    refine xl_op (P := Tryz.prog) (some 2) rfl rfl (ox_assign (v := (.slice A1 ((l).length) c1)) rfl ?_)
    refine xl_nil ?_
    refine xc_ret ?_
    change leaves _ _ _ _ _ _ _
    refine leaves_nil (n := 8) (rs := [.tmp 2]) (vs := [(.slice A1 ((l).length) c1)]) rfl ⟨⟨by decide, rfl⟩, trivial⟩ ?_
    have x1 : Ext w w2 := (Chg.trans e1 e2 (fun b hb hl => (absurd hl (by have _h := (fun _k _h => by simp [Value.ownBlock] at _h; omega) b hb; omega))))
    exact ⟨A1, c1, rfl, ⟨o1, fun k hk => by have _h := low1 k hk; omega⟩, ⟨fun hh => absurd hh h1, fun hh => by subst hh; have _q := at1; simp [Value.ownBlock] at _q⟩, x1⟩
theorem clonePD (l : List PD) (A : Option Addr) (c : Nat) (w : World) (hA : RowA w A (l.flatMap PD.cs)) (hn : l.length * 32 ≤ 140737488355328) :
    Calls Tryz.prog 84 #[(.slice A l.length c)] w (Ret (fun v w' => ∃ A' c', v = .slice A' l.length c' ∧ NewRow w w' 37 2 PD.cs l A' c' ∧ (A = none ↔ A' = none) ∧ Ext w w')) := by
  refine calls_xc (n := 8) (f := fun s_ => [(.slice A l.length c)].getD s_ undef) Tryz.func84 rfl rfl (by simp) (fun s_ => by simp) ?_
  refine xc_seq ?_
  refine xc_region ?_
  refine xl_op (P := Tryz.prog) (some 2) rfl rfl (ox_assign (v := (.slice none 0 0)) rfl ?_)
  refine xl_nil ?_
  refine xc_seq ?_
  refine xc_seq ?_
  refine xc_region ?_
  refine xl_op (P := Tryz.prog) (some 3) rfl rfl (ox_move (v := (.slice A l.length c)) rfl ?_)
  refine xl_op (P := Tryz.prog) (some 4) rfl rfl (ox_eqlSlice (A := A) (B := none) tU_24 rfl rfl (.inr rfl) ?_)
  refine xl_nil ?_
  refine xc_if (p := A = none) rfl (fun h1 => ?_) (fun h1 => ?_)
  · skip
    refine xc_seq ?_
    refine xc_region ?_
    refine xl_op (P := Tryz.prog) (some 2) rfl rfl (ox_assign (v := (.slice none 0 0)) rfl ?_)
    refine xl_nil ?_
    refine xc_ret ?_
    change leaves _ _ _ _ _ _ _
    refine leaves_nil (n := 8) (rs := [.tmp 2]) (vs := [(.slice none 0 0)]) rfl ⟨⟨by decide, rfl⟩, trivial⟩ ?_
    obtain rfl : l = [] := row_nil PD.len (by decide) (by rw [h1] at hA; exact hA)
    exact ⟨none, 0, rfl, ⟨Vx.Own.nil _ _ _, fun k hk => by simp [Value.ownBlock] at hk⟩, by simp [h1], (Chg.refl _ _)⟩
  · skip
    refine xc_skip ?_
    refine xc_seq ?_
    refine xc_region ?_
    refine xl_op (P := Tryz.prog) (some 5) rfl rfl (ox_mkSlice (ps := []) (zs := #[]) (cs := #[]) tE_24 rfl (by decide) (by kernel_rfl) (by kernel_rfl) ?_)
    intro w1 e1 z1 b1
    replace b1 : Blk w1 w.heap.size #[] 37 := b1
    refine xl_op (P := Tryz.prog) (some 6) rfl rfl (ox_move (v := (.slice A l.length c)) rfl ?_)
    refine xl_op (P := Tryz.prog) (some 7) rfl rfl (ox_appR (l := ([])) (r := l) (cs := PD.cs) rfl tE_24 rfl (by decide) PD.len PD.one (v := (.slice (some ⟨w.heap.size, 0, none⟩) 0 0)) rfl rfl (Vx.Own.lit (n := 0) (sz := 2) b1 rfl (by decide)) (RowA.ext hA e1) (by simp only [List.nil_append]; omega) (by decide) ?_)
    intro A1 c1 w2 o1 e2 at1 hc1
    have he2 := e2.size
    replace at1 : (Value.slice A1 (l).length c1).ownBlock = ((.slice (some ⟨w.heap.size, 0, none⟩) 0 0) : Value).ownBlock ∨ (Value.slice A1 (l).length c1).ownBlock = some w1.heap.size := at1
    replace o1 : Vx.Own w2 37 2 (.slice A1 (l).length c1) (l).length ((l).flatMap PD.cs) := o1
    have low1 : ∀ _k, (Value.slice A1 (l).length c1).ownBlock = some _k → w.heap.size ≤ _k := fun _k _h => by rcases at1 with _e | _e <;> rw [_e] at _h; exact (fun _k _h => by simp [Value.ownBlock] at _h; omega) _k _h; exact (by cases _h; omega)
    refine xl_op (P := Tryz.prog) (some 2) rfl rfl (ox_assign (v := (.slice A1 ((l).length) c1)) rfl ?_)
    refine xl_nil ?_
    refine xc_ret ?_
    change leaves _ _ _ _ _ _ _
    refine leaves_nil (n := 8) (rs := [.tmp 2]) (vs := [(.slice A1 ((l).length) c1)]) rfl ⟨⟨by decide, rfl⟩, trivial⟩ ?_
    have x1 : Ext w w2 := (Chg.trans e1 e2 (fun b hb hl => (absurd hl (by have _h := (fun _k _h => by simp [Value.ownBlock] at _h; omega) b hb; omega))))
    exact ⟨A1, c1, rfl, ⟨o1, fun k hk => by have _h := low1 k hk; omega⟩, ⟨fun hh => absurd hh h1, fun hh => by subst hh; have _q := at1; simp [Value.ownBlock] at _q⟩, x1⟩
theorem cloneSym (l : List Sym) (A : Option Addr) (c : Nat) (w : World) (hA : RowA w A (l.flatMap Sym.cs)) (hn : l.length * 16 ≤ 140737488355328) :
    Calls Tryz.prog 85 #[(.slice A l.length c)] w (Ret (fun v w' => ∃ A' c', v = .slice A' l.length c' ∧ NewRow w w' 32 2 Sym.cs l A' c' ∧ (A = none ↔ A' = none) ∧ Ext w w')) := by
  refine calls_xc (n := 8) (f := fun s_ => [(.slice A l.length c)].getD s_ undef) Tryz.func85 rfl rfl (by simp) (fun s_ => by simp) ?_
  refine xc_seq ?_
  refine xc_region ?_
  refine xl_op (P := Tryz.prog) (some 2) rfl rfl (ox_assign (v := (.slice none 0 0)) rfl ?_)
  refine xl_nil ?_
  refine xc_seq ?_
  refine xc_seq ?_
  refine xc_region ?_
  refine xl_op (P := Tryz.prog) (some 3) rfl rfl (ox_move (v := (.slice A l.length c)) rfl ?_)
  refine xl_op (P := Tryz.prog) (some 4) rfl rfl (ox_eqlSlice (A := A) (B := none) tU_33 rfl rfl (.inr rfl) ?_)
  refine xl_nil ?_
  refine xc_if (p := A = none) rfl (fun h1 => ?_) (fun h1 => ?_)
  · skip
    refine xc_seq ?_
    refine xc_region ?_
    refine xl_op (P := Tryz.prog) (some 2) rfl rfl (ox_assign (v := (.slice none 0 0)) rfl ?_)
    refine xl_nil ?_
    refine xc_ret ?_
    change leaves _ _ _ _ _ _ _
    refine leaves_nil (n := 8) (rs := [.tmp 2]) (vs := [(.slice none 0 0)]) rfl ⟨⟨by decide, rfl⟩, trivial⟩ ?_
    obtain rfl : l = [] := row_nil Sym.len (by decide) (by rw [h1] at hA; exact hA)
    exact ⟨none, 0, rfl, ⟨Vx.Own.nil _ _ _, fun k hk => by simp [Value.ownBlock] at hk⟩, by simp [h1], (Chg.refl _ _)⟩
  · skip
    refine xc_skip ?_
    refine xc_seq ?_
    refine xc_region ?_
    refine xl_op (P := Tryz.prog) (some 5) rfl rfl (ox_mkSlice (ps := []) (zs := #[]) (cs := #[]) tE_33 rfl (by decide) (by kernel_rfl) (by kernel_rfl) ?_)
    intro w1 e1 z1 b1
    replace b1 : Blk w1 w.heap.size #[] 32 := b1
    refine xl_op (P := Tryz.prog) (some 6) rfl rfl (ox_move (v := (.slice A l.length c)) rfl ?_)
    refine xl_op (P := Tryz.prog) (some 7) rfl rfl (ox_appR (l := ([])) (r := l) (cs := Sym.cs) rfl tE_33 rfl (by decide) Sym.len Sym.one (v := (.slice (some ⟨w.heap.size, 0, none⟩) 0 0)) rfl rfl (Vx.Own.lit (n := 0) (sz := 2) b1 rfl (by decide)) (RowA.ext hA e1) (by simp only [List.nil_append]; omega) (by decide) ?_)
    intro A1 c1 w2 o1 e2 at1 hc1
    have he2 := e2.size
    replace at1 : (Value.slice A1 (l).length c1).ownBlock = ((.slice (some ⟨w.heap.size, 0, none⟩) 0 0) : Value).ownBlock ∨ (Value.slice A1 (l).length c1).ownBlock = some w1.heap.size := at1
    replace o1 : Vx.Own w2 32 2 (.slice A1 (l).length c1) (l).length ((l).flatMap Sym.cs) := o1
    have low1 : ∀ _k, (Value.slice A1 (l).length c1).ownBlock = some _k → w.heap.size ≤ _k := fun _k _h => by rcases at1 with _e | _e <;> rw [_e] at _h; exact (fun _k _h => by simp [Value.ownBlock] at _h; omega) _k _h; exact (by cases _h; omega)
    refine xl_op (P := Tryz.prog) (some 2) rfl rfl (ox_assign (v := (.slice A1 ((l).length) c1)) rfl ?_)
    refine xl_nil ?_
    refine xc_ret ?_
    change leaves _ _ _ _ _ _ _
    refine leaves_nil (n := 8) (rs := [.tmp 2]) (vs := [(.slice A1 ((l).length) c1)]) rfl ⟨⟨by decide, rfl⟩, trivial⟩ ?_
    have x1 : Ext w w2 := (Chg.trans e1 e2 (fun b hb hl => (absurd hl (by have _h := (fun _k _h => by simp [Value.ownBlock] at _h; omega) b hb; omega))))
    exact ⟨A1, c1, rfl, ⟨o1, fun k hk => by have _h := low1 k hk; omega⟩, ⟨fun hh => absurd hh h1, fun hh => by subst hh; have _q := at1; simp [Value.ownBlock] at _q⟩, x1⟩
theorem cloneEX (l : List EX) (A : Option Addr) (c : Nat) (w : World) (hA : RowA w A (l.flatMap EX.cs)) (hn : l.length * 64 ≤ 140737488355328) :
    Calls Tryz.prog 114 #[(.slice A l.length c)] w (Ret (fun v w' => ∃ A' c', v = .slice A' l.length c' ∧ NewRow w w' 64 6 EX.cs l A' c' ∧ (A = none ↔ A' = none) ∧ Ext w w')) := by
  refine calls_xc (n := 8) (f := fun s_ => [(.slice A l.length c)].getD s_ undef) Tryz.func114 rfl rfl (by simp) (fun s_ => by simp) ?_
  refine xc_seq ?_
  refine xc_region ?_
  refine xl_op (P := Tryz.prog) (some 2) rfl rfl (ox_assign (v := (.slice none 0 0)) rfl ?_)
  refine xl_nil ?_
  refine xc_seq ?_
  refine xc_seq ?_
  refine xc_region ?_
  refine xl_op (P := Tryz.prog) (some 3) rfl rfl (ox_move (v := (.slice A l.length c)) rfl ?_)
  refine xl_op (P := Tryz.prog) (some 4) rfl rfl (ox_eqlSlice (A := A) (B := none) tU_62 rfl rfl (.inr rfl) ?_)
  refine xl_nil ?_
  refine xc_if (p := A = none) rfl (fun h1 => ?_) (fun h1 => ?_)
  · skip
    refine xc_seq ?_
    refine xc_region ?_
    refine xl_op (P := Tryz.prog) (some 2) rfl rfl (ox_assign (v := (.slice none 0 0)) rfl ?_)
    refine xl_nil ?_
    refine xc_ret ?_
    change leaves _ _ _ _ _ _ _
    refine leaves_nil (n := 8) (rs := [.tmp 2]) (vs := [(.slice none 0 0)]) rfl ⟨⟨by decide, rfl⟩, trivial⟩ ?_
    obtain rfl : l = [] := row_nil EX.len (by decide) (by rw [h1] at hA; exact hA)
    exact ⟨none, 0, rfl, ⟨Vx.Own.nil _ _ _, fun k hk => by simp [Value.ownBlock] at hk⟩, by simp [h1], (Chg.refl _ _)⟩
  · skip
    refine xc_skip ?_
    refine xc_seq ?_
    refine xc_region ?_
    refine xl_op (P := Tryz.prog) (some 5) rfl rfl (ox_mkSlice (ps := []) (zs := #[]) (cs := #[]) tE_62 rfl (by decide) (by kernel_rfl) (by kernel_rfl) ?_)
    intro w1 e1 z1 b1
    replace b1 : Blk w1 w.heap.size #[] 64 := b1
    refine xl_op (P := Tryz.prog) (some 6) rfl rfl (ox_move (v := (.slice A l.length c)) rfl ?_)
    refine xl_op (P := Tryz.prog) (some 7) rfl rfl (ox_appR (l := ([])) (r := l) (cs := EX.cs) rfl tE_62 rfl (by decide) EX.len EX.one (v := (.slice (some ⟨w.heap.size, 0, none⟩) 0 0)) rfl rfl (Vx.Own.lit (n := 0) (sz := 6) b1 rfl (by decide)) (RowA.ext hA e1) (by simp only [List.nil_append]; omega) (by decide) ?_)
    intro A1 c1 w2 o1 e2 at1 hc1
    have he2 := e2.size
    replace at1 : (Value.slice A1 (l).length c1).ownBlock = ((.slice (some ⟨w.heap.size, 0, none⟩) 0 0) : Value).ownBlock ∨ (Value.slice A1 (l).length c1).ownBlock = some w1.heap.size := at1
    replace o1 : Vx.Own w2 64 6 (.slice A1 (l).length c1) (l).length ((l).flatMap EX.cs) := o1
    have low1 : ∀ _k, (Value.slice A1 (l).length c1).ownBlock = some _k → w.heap.size ≤ _k := fun _k _h => by rcases at1 with _e | _e <;> rw [_e] at _h; exact (fun _k _h => by simp [Value.ownBlock] at _h; omega) _k _h; exact (by cases _h; omega)
    refine xl_op (P := Tryz.prog) (some 2) rfl rfl (ox_assign (v := (.slice A1 ((l).length) c1)) rfl ?_)
    refine xl_nil ?_
    refine xc_ret ?_
    change leaves _ _ _ _ _ _ _
    refine leaves_nil (n := 8) (rs := [.tmp 2]) (vs := [(.slice A1 ((l).length) c1)]) rfl ⟨⟨by decide, rfl⟩, trivial⟩ ?_
    have x1 : Ext w w2 := (Chg.trans e1 e2 (fun b hb hl => (absurd hl (by have _h := (fun _k _h => by simp [Value.ownBlock] at _h; omega) b hb; omega))))
    exact ⟨A1, c1, rfl, ⟨o1, fun k hk => by have _h := low1 k hk; omega⟩, ⟨fun hh => absurd hh h1, fun hh => by subst hh; have _q := at1; simp [Value.ownBlock] at _q⟩, x1⟩
theorem indexB (l : List Bool) (A : Option Addr) (c : Nat) (y : Bool) (w : World) (hA : RowA w A (l.flatMap bools)) (hn : l.length ≤ 8796093022208) :
    Calls Tryz.prog 89 #[(.slice A l.length c), (.bool y)] w (Ret (fun v w' => v = .int .i64 (idxO y l 0) ∧ Ext w w')) := by
  refine calls_xc (n := 19) (f := fun s_ => [(.slice A l.length c), (.bool y)].getD s_ undef) Tryz.func89 rfl rfl (by simp) (fun s_ => by simp) ?_
  refine xc_seq ?_
  refine xc_region ?_
  refine xl_op (P := Tryz.prog) (some 4) rfl rfl (ox_assign (v := (.int .i64 0)) rfl ?_)
  refine xl_nil ?_
  refine xc_seq ?_
  refine xc_seq ?_
  refine xc_region ?_
  refine xl_op (P := Tryz.prog) (some 6) rfl rfl (ox_move (v := (.slice A l.length c)) rfl ?_)
  refine xl_op (P := Tryz.prog) (some 7) rfl rfl (ox_len (A := A) (n := l.length) (cp := c) rfl tU_144 rfl ?_)
  refine xl_op (P := Tryz.prog) (some 8) rfl rfl (ox_move (v := (.int .i64 0)) rfl ?_)
  refine xl_nil ?_
  refine xc_block ?_
  refine xc_loopN (fun m_ f_ Wx => ∃ (i : Nat), m_ = l.length - i ∧ (i ≤ l.length) ∧ (idxO y l 0 = idxO y (l.drop i) i) ∧ f_ 0 = (.slice A l.length c) ∧ f_ 1 = (.bool y) ∧ f_ 7 = (.int .i64 (((l.length : Nat) : Int))) ∧ f_ 8 = (.int .i64 ((i : Nat))) ∧ Ext w Wx) (l.length) ?_ ?_
  · exact ⟨0, (by omega), (by omega), (by simp), rfl, rfl, rfl, (by first | exact rfl | exact (congrArg (Value.int .i64) (by omega))), (Chg.refl _ _)⟩
  · rintro m_ f1 w1 ⟨i, hm_f1, hi, hq, g0_f1, g1_f1, g7_f1, g8_f1, x1⟩
    have hx1 := x1.size
    refine xc_seq ?_
    refine xc_region ?_
    refine xl_op (P := Tryz.prog) (some 9) rfl rfl (ox_lss (k := .i64) (a := ((i : Nat))) (b := (((l.length : Nat) : Int))) g8_f1 g7_f1 ?_)
    refine xl_nil ?_
    refine xc_seq ?_
    refine xc_if (p := ((i : Nat) : Int) < (((l.length : Nat) : Int))) rfl (fun h1 => ?_) (fun h1 => ?_)
    · skip
      refine xc_skip ?_
      refine xc_seq ?_
      refine xc_block ?_
      refine xc_seq ?_
      refine xc_region ?_
      refine xl_op (P := Tryz.prog) (some 10) rfl rfl (ox_move (v := (.int .i64 ((i : Nat)))) g8_f1 ?_)
      refine xl_op (P := Tryz.prog) (some 5) rfl rfl (ox_assign (v := (.int .i64 ((i : Nat)))) rfl ?_)
      refine xl_nil ?_
      refine xc_seq ?_
      refine xc_region ?_
      refine xl_op (P := Tryz.prog) (some 11) rfl rfl (ox_move (v := (.bool y)) g1_f1 ?_)
      refine xl_op (P := Tryz.prog) (some 12) rfl rfl (ox_move (v := (.slice A l.length c)) g0_f1 ?_)
      refine xl_op (P := Tryz.prog) (some 13) rfl rfl (ox_move (v := (.int .i64 ((i : Nat)))) rfl ?_)
      obtain ⟨x_1, g_1, o_1, hx_1⟩ := row_may (A := A) (cs := bools) i bools_len (by decide) (RowA.ext hA x1)
      obtain ⟨hx_2, hA_1, hc_1⟩ := hx_1 (by first | omega | (simp only [List.length_drop, List.length_replicate, List.length_set, List.length_append, List.length_map, List.length_singleton] at *; omega))
      refine xl_op (P := Tryz.prog) (some 14) rfl rfl (ox_ixA (b := g_1) (o := o_1) (i := ((i : Nat))) i tE_144 hA_1 rfl rfl rfl (by omega) ?_)
      refine xl_op (P := Tryz.prog) (some 15) rfl rfl (ox_load (v := (.bool x_1)) tA_4 rfl (CellsL.at1 hc_1 0 rfl) ?_)
      refine xl_op (P := Tryz.prog) (some 16) rfl rfl (ox_eqlBool (a := y) (b := x_1) tU_4 rfl rfl ?_)
      refine xl_nil ?_
      refine xc_if (p := y = x_1) rfl (fun h2 => ?_) (fun h2 => ?_)
      · skip
        refine xc_seq ?_
        refine xc_region ?_
        refine xl_op (P := Tryz.prog) (some 17) rfl rfl (ox_move (v := (.int .i64 ((i : Nat)))) rfl ?_)
        refine xl_op (P := Tryz.prog) (some 4) rfl rfl (ox_assign (v := (.int .i64 ((i : Nat)))) rfl ?_)
        refine xl_nil ?_
        refine xc_ret ?_
        change leaves _ _ _ _ _ _ _
        refine leaves_nil (n := 19) (rs := [.tmp 4]) (vs := [(.int .i64 ((i : Nat)))]) rfl ⟨⟨by decide, rfl⟩, trivial⟩ ?_
        exact ⟨by rw [hq, idxO_hit hx_2 (by simp_all)]; rfl, x1⟩
      · skip
        refine xc_skip ?_
        refine xc_region ?_
        refine xl_op (P := Tryz.prog) (some 18) rfl rfl (ox_add64 (a := ((i : Nat))) (b := 1) g8_f1 rfl (by omega) ?_)
        refine xl_op (P := Tryz.prog) (some 8) rfl rfl (ox_move (v := (.int .i64 ((i : Nat) + 1))) rfl ?_)
        refine xl_nil ?_
        exact ⟨rfl, l.length - (i + 1), by omega, i + 1, by omega, (by omega), (by rw [hq, idxO_next hx_2 (by simp_all)]), g0_f1, g1_f1, g7_f1, (by first | exact rfl | exact (congrArg (Value.int .i64) (by omega))), x1⟩
    · skip
      refine xc_exit ?_
      refine xc_seq ?_
      refine xc_region ?_
      refine xl_op (P := Tryz.prog) (some 4) rfl rfl (ox_assign (v := (.int .i64 (-1))) rfl ?_)
      refine xl_nil ?_
      refine xc_ret ?_
      change leaves _ _ _ _ _ _ _
      refine leaves_nil (n := 19) (rs := [.tmp 4]) (vs := [(.int .i64 (-1))]) rfl ⟨⟨by decide, rfl⟩, trivial⟩ ?_
      exact ⟨by rw [hq, idxO_end (by omega)]; rfl, x1⟩
theorem indexFSym (l : List Sym) (A : Option Addr) (c : Nat) (p : Sym → Bool) (G : Nat) (CB : List Value) (w : World) (hA : RowA w A (l.flatMap Sym.cs)) (hn : l.length ≤ 8796093022208) (hp : plainF Tryz.prog G = true) (hf : ∀ x ∈ l, ∀ W, Ext w W → Calls Tryz.prog G ([Value.agg (Sym.cs x).toArray] ++ CB).toArray W (Ret fun v W' => v = .bool (p x) ∧ Ext W W')) :
    Calls Tryz.prog 143 #[(.slice A l.length c), (.func (.func G) #[] CB.toArray)] w (Ret (fun v w' => ∃ r : Int, v = .int .i64 r ∧ (0 ≤ r ↔ l.any p = true) ∧ Ext w w')) := by
  refine calls_xc (n := 19) (f := fun s_ => [(.slice A l.length c), (.func (.func G) #[] CB.toArray)].getD s_ undef) Tryz.func143 rfl rfl (by simp) (fun s_ => by simp) ?_
  refine xc_seq ?_
  refine xc_region ?_
  refine xl_op (P := Tryz.prog) (some 4) rfl rfl (ox_assign (v := (.int .i64 0)) rfl ?_)
  refine xl_nil ?_
  refine xc_seq ?_
  refine xc_seq ?_
  refine xc_region ?_
  refine xl_op (P := Tryz.prog) (some 6) rfl rfl (ox_move (v := (.slice A l.length c)) rfl ?_)
  refine xl_op (P := Tryz.prog) (some 7) rfl rfl (ox_len (A := A) (n := l.length) (cp := c) rfl tU_33 rfl ?_)
  refine xl_op (P := Tryz.prog) (some 8) rfl rfl (ox_move (v := (.int .i64 0)) rfl ?_)
  refine xl_nil ?_
  refine xc_block ?_
  refine xc_loopN (fun m_ f_ Wx => ∃ (i : Nat), m_ = l.length - i ∧ (i ≤ l.length) ∧ (l.any p = (l.drop i).any p) ∧ f_ 0 = (.slice A l.length c) ∧ f_ 1 = (.func (.func G) #[] CB.toArray) ∧ f_ 7 = (.int .i64 (((l.length : Nat) : Int))) ∧ f_ 8 = (.int .i64 ((i : Nat))) ∧ Ext w Wx) (l.length) ?_ ?_
  · exact ⟨0, (by omega), (by omega), (by simp), rfl, rfl, rfl, (by first | exact rfl | exact (congrArg (Value.int .i64) (by omega))), (Chg.refl _ _)⟩
  · rintro m_ f1 w1 ⟨i, hm_f1, hi, hq, g0_f1, g1_f1, g7_f1, g8_f1, x1⟩
    have hx1 := x1.size
    refine xc_seq ?_
    refine xc_region ?_
    refine xl_op (P := Tryz.prog) (some 9) rfl rfl (ox_lss (k := .i64) (a := ((i : Nat))) (b := (((l.length : Nat) : Int))) g8_f1 g7_f1 ?_)
    refine xl_nil ?_
    refine xc_seq ?_
    refine xc_if (p := ((i : Nat) : Int) < (((l.length : Nat) : Int))) rfl (fun h1 => ?_) (fun h1 => ?_)
    · skip
      refine xc_skip ?_
      refine xc_seq ?_
      refine xc_block ?_
      refine xc_seq ?_
      refine xc_region ?_
      refine xl_op (P := Tryz.prog) (some 10) rfl rfl (ox_move (v := (.int .i64 ((i : Nat)))) g8_f1 ?_)
      refine xl_op (P := Tryz.prog) (some 5) rfl rfl (ox_assign (v := (.int .i64 ((i : Nat)))) rfl ?_)
      refine xl_nil ?_
      refine xc_seq ?_
      refine xc_region ?_
      refine xl_op (P := Tryz.prog) (some 11) rfl rfl (ox_move (v := (.func (.func G) #[] CB.toArray)) g1_f1 ?_)
      refine xl_op (P := Tryz.prog) (some 12) rfl rfl (ox_move (v := (.slice A l.length c)) g0_f1 ?_)
      refine xl_op (P := Tryz.prog) (some 13) rfl rfl (ox_move (v := (.int .i64 ((i : Nat)))) rfl ?_)
      obtain ⟨x_1, g_1, o_1, hx_1⟩ := row_may (A := A) (cs := Sym.cs) i Sym.len (by decide) (RowA.ext hA x1)
      obtain ⟨hx_2, hA_1, hc_1⟩ := hx_1 (by first | omega | (simp only [List.length_drop, List.length_replicate, List.length_set, List.length_append, List.length_map, List.length_singleton] at *; omega))
      refine xl_op (P := Tryz.prog) (some 14) rfl rfl (ox_ixA (b := g_1) (o := o_1) (i := ((i : Nat))) i tE_33 hA_1 rfl rfl rfl (by omega) ?_)
      refine xl_op (P := Tryz.prog) (some 15) rfl rfl (ox_loadN (vs := [(.int .i64 x_1.kind), (.int .i64 x_1.n)]) tA_32 tS_32 rfl rfl hc_1 ?_)
      refine xl_op (P := Tryz.prog) (some 16) rfl rfl (ox_callV (cap := CB) (al := [(.agg #[(.int .i64 x_1.kind), (.int .i64 x_1.n)])]) hp rfl rfl (ret_mono (hf x_1 (List.mem_of_getElem? hx_2) w1 x1) ?_))
      rintro _ w2 ⟨rfl, e1⟩
      have he1 := e1.size
      refine xl_nil ?_
      refine xc_cond (b := (p x_1)) rfl (fun h2 => ?_) (fun h2 => ?_)
      · skip
        have h2' := h2
        try simp only [Bool.or_eq_true, Bool.and_eq_true, decide_eq_true_eq, Bool.or_eq_false_iff, Bool.and_eq_false_iff, decide_eq_false_iff_not, Bool.not_eq_true', Bool.not_eq_false'] at h2'
        refine xc_seq ?_
        refine xc_region ?_
        refine xl_op (P := Tryz.prog) (some 17) rfl rfl (ox_move (v := (.int .i64 ((i : Nat)))) rfl ?_)
        refine xl_op (P := Tryz.prog) (some 4) rfl rfl (ox_assign (v := (.int .i64 ((i : Nat)))) rfl ?_)
        refine xl_nil ?_
        refine xc_ret ?_
        change leaves _ _ _ _ _ _ _
        refine leaves_nil (n := 19) (rs := [.tmp 4]) (vs := [(.int .i64 ((i : Nat)))]) rfl ⟨⟨by decide, rfl⟩, trivial⟩ ?_
        have x2 : Ext w w2 := (Ext.trans x1 e1)
        exact ⟨_, rfl, ⟨fun _ => List.any_eq_true.2 ⟨x_1, List.mem_of_getElem? hx_2, h2⟩, fun _ => by omega⟩, x2⟩
      · skip
        have h2' := h2
        try simp only [Bool.or_eq_true, Bool.and_eq_true, decide_eq_true_eq, Bool.or_eq_false_iff, Bool.and_eq_false_iff, decide_eq_false_iff_not, Bool.not_eq_true', Bool.not_eq_false'] at h2'
        refine xc_skip ?_
        refine xc_region ?_
        refine xl_op (P := Tryz.prog) (some 18) rfl rfl (ox_add64 (a := ((i : Nat))) (b := 1) g8_f1 rfl (by omega) ?_)
        refine xl_op (P := Tryz.prog) (some 8) rfl rfl (ox_move (v := (.int .i64 ((i : Nat) + 1))) rfl ?_)
        refine xl_nil ?_
        have x3 : Ext w w2 := (Ext.trans x1 e1)
        exact ⟨rfl, l.length - (i + 1), by omega, i + 1, by omega, (by omega), (by rw [hq, drop_get hx_2, List.any_cons, h2, Bool.false_or]), g0_f1, g1_f1, g7_f1, (by first | exact rfl | exact (congrArg (Value.int .i64) (by omega))), x3⟩
    · skip
      refine xc_exit ?_
      refine xc_seq ?_
      refine xc_region ?_
      refine xl_op (P := Tryz.prog) (some 4) rfl rfl (ox_assign (v := (.int .i64 (-1))) rfl ?_)
      refine xl_nil ?_
      refine xc_ret ?_
      change leaves _ _ _ _ _ _ _
      refine leaves_nil (n := 19) (rs := [.tmp 4]) (vs := [(.int .i64 (-1))]) rfl ⟨⟨by decide, rfl⟩, trivial⟩ ?_
      exact ⟨_, rfl, ⟨fun hh => absurd hh (by decide), fun hh => absurd hh (by rw [hq, List.drop_of_length_le (by omega)]; simp)⟩, x1⟩
theorem indexFPD (l : List PD) (A : Option Addr) (c : Nat) (p : PD → Bool) (G : Nat) (CB : List Value) (w : World) (hA : RowA w A (l.flatMap PD.cs)) (hn : l.length ≤ 8796093022208) (hp : plainF Tryz.prog G = true) (hf : ∀ x ∈ l, ∀ W, Ext w W → Calls Tryz.prog G ([Value.agg (PD.cs x).toArray] ++ CB).toArray W (Ret fun v W' => v = .bool (p x) ∧ Ext W W')) :
    Calls Tryz.prog 142 #[(.slice A l.length c), (.func (.func G) #[] CB.toArray)] w (Ret (fun v w' => ∃ r : Int, v = .int .i64 r ∧ (0 ≤ r ↔ l.any p = true) ∧ Ext w w')) := by
  refine calls_xc (n := 19) (f := fun s_ => [(.slice A l.length c), (.func (.func G) #[] CB.toArray)].getD s_ undef) Tryz.func142 rfl rfl (by simp) (fun s_ => by simp) ?_
  refine xc_seq ?_
  refine xc_region ?_
  refine xl_op (P := Tryz.prog) (some 4) rfl rfl (ox_assign (v := (.int .i64 0)) rfl ?_)
  refine xl_nil ?_
  refine xc_seq ?_
  refine xc_seq ?_
  refine xc_region ?_
  refine xl_op (P := Tryz.prog) (some 6) rfl rfl (ox_move (v := (.slice A l.length c)) rfl ?_)
  refine xl_op (P := Tryz.prog) (some 7) rfl rfl (ox_len (A := A) (n := l.length) (cp := c) rfl tU_24 rfl ?_)
  refine xl_op (P := Tryz.prog) (some 8) rfl rfl (ox_move (v := (.int .i64 0)) rfl ?_)
  refine xl_nil ?_
  refine xc_block ?_
  refine xc_loopN (fun m_ f_ Wx => ∃ (i : Nat), m_ = l.length - i ∧ (i ≤ l.length) ∧ (l.any p = (l.drop i).any p) ∧ f_ 0 = (.slice A l.length c) ∧ f_ 1 = (.func (.func G) #[] CB.toArray) ∧ f_ 7 = (.int .i64 (((l.length : Nat) : Int))) ∧ f_ 8 = (.int .i64 ((i : Nat))) ∧ Ext w Wx) (l.length) ?_ ?_
  · exact ⟨0, (by omega), (by omega), (by simp), rfl, rfl, rfl, (by first | exact rfl | exact (congrArg (Value.int .i64) (by omega))), (Chg.refl _ _)⟩
  · rintro m_ f1 w1 ⟨i, hm_f1, hi, hq, g0_f1, g1_f1, g7_f1, g8_f1, x1⟩
    have hx1 := x1.size
    refine xc_seq ?_
    refine xc_region ?_
    refine xl_op (P := Tryz.prog) (some 9) rfl rfl (ox_lss (k := .i64) (a := ((i : Nat))) (b := (((l.length : Nat) : Int))) g8_f1 g7_f1 ?_)
    refine xl_nil ?_
    refine xc_seq ?_
    refine xc_if (p := ((i : Nat) : Int) < (((l.length : Nat) : Int))) rfl (fun h1 => ?_) (fun h1 => ?_)
    · skip
      refine xc_skip ?_
      refine xc_seq ?_
      refine xc_block ?_
      refine xc_seq ?_
      refine xc_region ?_
      refine xl_op (P := Tryz.prog) (some 10) rfl rfl (ox_move (v := (.int .i64 ((i : Nat)))) g8_f1 ?_)
      refine xl_op (P := Tryz.prog) (some 5) rfl rfl (ox_assign (v := (.int .i64 ((i : Nat)))) rfl ?_)
      refine xl_nil ?_
      refine xc_seq ?_
      refine xc_region ?_
      refine xl_op (P := Tryz.prog) (some 11) rfl rfl (ox_move (v := (.func (.func G) #[] CB.toArray)) g1_f1 ?_)
      refine xl_op (P := Tryz.prog) (some 12) rfl rfl (ox_move (v := (.slice A l.length c)) g0_f1 ?_)
      refine xl_op (P := Tryz.prog) (some 13) rfl rfl (ox_move (v := (.int .i64 ((i : Nat)))) rfl ?_)
      obtain ⟨x_1, g_1, o_1, hx_1⟩ := row_may (A := A) (cs := PD.cs) i PD.len (by decide) (RowA.ext hA x1)
      obtain ⟨hx_2, hA_1, hc_1⟩ := hx_1 (by first | omega | (simp only [List.length_drop, List.length_replicate, List.length_set, List.length_append, List.length_map, List.length_singleton] at *; omega))
      refine xl_op (P := Tryz.prog) (some 14) rfl rfl (ox_ixA (b := g_1) (o := o_1) (i := ((i : Nat))) i tE_24 hA_1 rfl rfl rfl (by omega) ?_)
      refine xl_op (P := Tryz.prog) (some 15) rfl rfl (ox_loadN (vs := [(.int .i64 x_1.left), (.slice x_1.rA x_1.right.length x_1.rc)]) tA_37 tS_37 rfl rfl hc_1 ?_)
      refine xl_op (P := Tryz.prog) (some 16) rfl rfl (ox_callV (cap := CB) (al := [(.agg #[(.int .i64 x_1.left), (.slice x_1.rA x_1.right.length x_1.rc)])]) hp rfl rfl (ret_mono (hf x_1 (List.mem_of_getElem? hx_2) w1 x1) ?_))
      rintro _ w2 ⟨rfl, e1⟩
      have he1 := e1.size
      refine xl_nil ?_
      refine xc_cond (b := (p x_1)) rfl (fun h2 => ?_) (fun h2 => ?_)
      · skip
        have h2' := h2
        try simp only [Bool.or_eq_true, Bool.and_eq_true, decide_eq_true_eq, Bool.or_eq_false_iff, Bool.and_eq_false_iff, decide_eq_false_iff_not, Bool.not_eq_true', Bool.not_eq_false'] at h2'
        refine xc_seq ?_
        refine xc_region ?_
        refine xl_op (P := Tryz.prog) (some 17) rfl rfl (ox_move (v := (.int .i64 ((i : Nat)))) rfl ?_)
        refine xl_op (P := Tryz.prog) (some 4) rfl rfl (ox_assign (v := (.int .i64 ((i : Nat)))) rfl ?_)
        refine xl_nil ?_
        refine xc_ret ?_
        change leaves _ _ _ _ _ _ _
        refine leaves_nil (n := 19) (rs := [.tmp 4]) (vs := [(.int .i64 ((i : Nat)))]) rfl ⟨⟨by decide, rfl⟩, trivial⟩ ?_
        have x2 : Ext w w2 := (Ext.trans x1 e1)
        exact ⟨_, rfl, ⟨fun _ => List.any_eq_true.2 ⟨x_1, List.mem_of_getElem? hx_2, h2⟩, fun _ => by omega⟩, x2⟩
      · skip
        have h2' := h2
        try simp only [Bool.or_eq_true, Bool.and_eq_true, decide_eq_true_eq, Bool.or_eq_false_iff, Bool.and_eq_false_iff, decide_eq_false_iff_not, Bool.not_eq_true', Bool.not_eq_false'] at h2'
        refine xc_skip ?_
        refine xc_region ?_
        refine xl_op (P := Tryz.prog) (some 18) rfl rfl (ox_add64 (a := ((i : Nat))) (b := 1) g8_f1 rfl (by omega) ?_)
        refine xl_op (P := Tryz.prog) (some 8) rfl rfl (ox_move (v := (.int .i64 ((i : Nat) + 1))) rfl ?_)
        refine xl_nil ?_
        have x3 : Ext w w2 := (Ext.trans x1 e1)
        exact ⟨rfl, l.length - (i + 1), by omega, i + 1, by omega, (by omega), (by rw [hq, drop_get hx_2, List.any_cons, h2, Bool.false_or]), g0_f1, g1_f1, g7_f1, (by first | exact rfl | exact (congrArg (Value.int .i64) (by omega))), x3⟩
    · skip
      refine xc_exit ?_
      refine xc_seq ?_
      refine xc_region ?_
      refine xl_op (P := Tryz.prog) (some 4) rfl rfl (ox_assign (v := (.int .i64 (-1))) rfl ?_)
      refine xl_nil ?_
      refine xc_ret ?_
      change leaves _ _ _ _ _ _ _
      refine leaves_nil (n := 19) (rs := [.tmp 4]) (vs := [(.int .i64 (-1))]) rfl ⟨⟨by decide, rfl⟩, trivial⟩ ?_
      exact ⟨_, rfl, ⟨fun hh => absurd hh (by decide), fun hh => absurd hh (by rw [hq, List.drop_of_length_le (by omega)]; simp)⟩, x1⟩
theorem containsFSym (l : List Sym) (A : Option Addr) (c : Nat) (p : Sym → Bool) (G : Nat) (CB : List Value) (w : World) (hA : RowA w A (l.flatMap Sym.cs)) (hn : l.length ≤ 8796093022208) (hp : plainF Tryz.prog G = true) (hf : ∀ x ∈ l, ∀ W, Ext w W → Calls Tryz.prog G ([Value.agg (Sym.cs x).toArray] ++ CB).toArray W (Ret fun v W' => v = .bool (p x) ∧ Ext W W')) :
    Calls Tryz.prog 123 #[(.slice A l.length c), (.func (.func G) #[] CB.toArray)] w (Ret (fun v w' => v = .bool (l.any p) ∧ Ext w w')) := by
  refine calls_xc (n := 9) (f := fun s_ => [(.slice A l.length c), (.func (.func G) #[] CB.toArray)].getD s_ undef) Tryz.func123 rfl rfl (by simp) (fun s_ => by simp) ?_
  refine xc_seq ?_
  refine xc_region ?_
  refine xl_op (P := Tryz.prog) (some 4) rfl rfl (ox_assign (v := (.bool false)) rfl ?_)
  refine xl_nil ?_
  refine xc_seq ?_
  refine xc_region ?_
  refine xl_op (P := Tryz.prog) (some 5) rfl rfl (ox_move (v := (.slice A l.length c)) rfl ?_)
  refine xl_op (P := Tryz.prog) (some 6) rfl rfl (ox_move (v := (.func (.func G) #[] CB.toArray)) rfl ?_)
  refine xl_op (P := Tryz.prog) (some 7) rfl rfl (ox_callE (al := [(.slice A l.length c), (.func (.func G) #[] CB.toArray)]) pf_143 rfl (ret_mono (indexFSym l A c p G CB w hA hn hp hf) ?_))
  rintro _ w1 ⟨r1, rfl, hr1, e1⟩
  have he1 := e1.size
  refine xl_op (P := Tryz.prog) (some 8) rfl rfl (ox_geq (k := .i64) (a := r1) (b := 0) rfl rfl ?_)
  refine xl_op (P := Tryz.prog) (some 4) rfl rfl (ox_assign (v := (.bool (decide ((0 : Int) ≤ r1)))) rfl ?_)
  refine xl_nil ?_
  refine xc_ret ?_
  change leaves _ _ _ _ _ _ _
  refine leaves_nil (n := 9) (rs := [.tmp 4]) (vs := [(.bool (decide ((0 : Int) ≤ r1)))]) rfl ⟨⟨by decide, rfl⟩, trivial⟩ ?_
  exact ⟨congrArg Value.bool (by rw [Bool.eq_iff_iff, decide_eq_true_iff]; exact hr1), e1⟩
theorem containsFPD (l : List PD) (A : Option Addr) (c : Nat) (p : PD → Bool) (G : Nat) (CB : List Value) (w : World) (hA : RowA w A (l.flatMap PD.cs)) (hn : l.length ≤ 8796093022208) (hp : plainF Tryz.prog G = true) (hf : ∀ x ∈ l, ∀ W, Ext w W → Calls Tryz.prog G ([Value.agg (PD.cs x).toArray] ++ CB).toArray W (Ret fun v W' => v = .bool (p x) ∧ Ext W W')) :
    Calls Tryz.prog 115 #[(.slice A l.length c), (.func (.func G) #[] CB.toArray)] w (Ret (fun v w' => v = .bool (l.any p) ∧ Ext w w')) := by
  refine calls_xc (n := 9) (f := fun s_ => [(.slice A l.length c), (.func (.func G) #[] CB.toArray)].getD s_ undef) Tryz.func115 rfl rfl (by simp) (fun s_ => by simp) ?_
  refine xc_seq ?_
  refine xc_region ?_
  refine xl_op (P := Tryz.prog) (some 4) rfl rfl (ox_assign (v := (.bool false)) rfl ?_)
  refine xl_nil ?_
  refine xc_seq ?_
  refine xc_region ?_
  refine xl_op (P := Tryz.prog) (some 5) rfl rfl (ox_move (v := (.slice A l.length c)) rfl ?_)
  refine xl_op (P := Tryz.prog) (some 6) rfl rfl (ox_move (v := (.func (.func G) #[] CB.toArray)) rfl ?_)
  refine xl_op (P := Tryz.prog) (some 7) rfl rfl (ox_callE (al := [(.slice A l.length c), (.func (.func G) #[] CB.toArray)]) pf_142 rfl (ret_mono (indexFPD l A c p G CB w hA hn hp hf) ?_))
  rintro _ w1 ⟨r1, rfl, hr1, e1⟩
  have he1 := e1.size
  refine xl_op (P := Tryz.prog) (some 8) rfl rfl (ox_geq (k := .i64) (a := r1) (b := 0) rfl rfl ?_)
  refine xl_op (P := Tryz.prog) (some 4) rfl rfl (ox_assign (v := (.bool (decide ((0 : Int) ≤ r1)))) rfl ?_)
  refine xl_nil ?_
  refine xc_ret ?_
  change leaves _ _ _ _ _ _ _
  refine leaves_nil (n := 9) (rs := [.tmp 4]) (vs := [(.bool (decide ((0 : Int) ≤ r1)))]) rfl ⟨⟨by decide, rfl⟩, trivial⟩ ?_
  exact ⟨congrArg Value.bool (by rw [Bool.eq_iff_iff, decide_eq_true_iff]; exact hr1), e1⟩
end Go.Proofs.YtnnmdkglgnlenaaGreatDoor
set_option linter.unusedVariables false
set_option linter.unusedSimpArgs false
set_option maxRecDepth 100000
set_option maxHeartbeats 4000000
namespace Go.Proofs.YtnnmdkglgnlenaaGreatDoor
open Go Go.RowKit Go.Vx
theorem bang_of {α : Type} [Inhabited α] {l : List α} {i : Nat} {x : α} (h : l[i]? = some x) : l[i]! = x := by
  rw [getElem!_def, h]
def symE (g : GD) (x : Sym) : Int :=
  if x.kind = 1 then (if 0 ≤ x.n ∧ x.n < g.triv.length then (if g.triv[x.n.toNat]! = true then 71 else 0) else 70)
  else if x.kind = 2 then (if x.n = 0 then 0 else 70)
  else if x.kind = 3 then (if 0 ≤ x.n ∧ x.n < g.names then 0 else 70) else 70
def longG (g : GD) : Bool := decide (64 < (g.triv.length : Int)) || decide (128 < (g.names : Int)) || decide (512 < (g.prods.length : Int)) || g.prods.any (fun p => decide (16 < (p.2.length : Int)))
def faultV (e at_ : Int) : Value := .agg #[.int .i64 e, .int .i64 at_, .string ⟨#[]⟩]
def rowE (g : GD) : List Sym → Int
  | [] => 0
  | x :: r => if symE g x = 0 then rowE g r else symE g x
def indP (g : GD) : List P2 → Nat → Int × Int
  | [], _ => (0, 0)
  | p :: r, i => if p.1 < 0 ∨ (g.names : Int) ≤ p.1 then (70, (i : Nat)) else if rowE g p.2 = 0 then indP g r (i + 1) else (rowE g p.2, (i : Nat))
def indG (g : GD) : Int × Int := if g.start < 0 ∨ (g.names : Int) ≤ g.start then (70, -1) else indP g g.prods 0
theorem rowE_hit {g : GD} {l : List Sym} {k : Nat} {y : Sym} (h : l[k]? = some y) (e : ¬ (symE g y = 0)) : rowE g (l.drop k) = symE g y := by rw [drop_get h, rowE, if_neg e]
theorem rowE_next {g : GD} {l : List Sym} {k : Nat} {y : Sym} (h : l[k]? = some y) (e : symE g y = 0) : rowE g (l.drop k) = rowE g (l.drop (k + 1)) := by rw [drop_get h, rowE, if_pos e]
theorem indG_start {g : GD} (h : g.start < 0 ∨ (g.names : Int) ≤ g.start) : indG g = (70, -1) := by unfold indG; rw [if_pos h]
theorem indG_go {s : SP} (h : 0 ≤ s.start ∧ s.start < (s.names.length : Int)) : indG s.g = indP s.g s.g.prods 0 := by unfold indG; rw [if_neg]; show ¬ (s.start < 0 ∨ (s.names.length : Int) ≤ s.start); omega
theorem indP_left {g : GD} {p : P2} {r : List P2} {i : Nat} (h : p.1 < 0 ∨ (g.names : Int) ≤ p.1) : indP g (p :: r) i = (70, ((i : Nat) : Int)) := by rw [indP, if_pos h]
theorem indP_sym {g : GD} {p : P2} {r : List P2} {i : Nat} (h : 0 ≤ p.1 ∧ p.1 < (g.names : Int)) {e : Int} (he : rowE g p.2 = e) (h0 : ¬ (e = 0)) : indP g (p :: r) i = (e, ((i : Nat) : Int)) := by rw [indP, if_neg (by omega), he, if_neg h0]
theorem indP_next {g : GD} {p : P2} {r : List P2} {i : Nat} (h : 0 ≤ p.1 ∧ p.1 < (g.names : Int)) (he : rowE g p.2 = 0) : indP g (p :: r) i = indP g r (i + 1) := by rw [indP, if_neg (by omega), if_pos he]
theorem pf_115 : plainF Tryz.prog 115 = true := by kernel_rfl
theorem pf_116 : plainF Tryz.prog 116 = true := by kernel_rfl
theorem pf_117 : plainF Tryz.prog 117 = true := by kernel_rfl
theorem tA_22 : isAggT Tryz.prog 22 = some false := by kernel_rfl
theorem tA_23 : isAggT Tryz.prog 23 = some false := by kernel_rfl
theorem tA_24 : isAggT Tryz.prog 24 = some false := by kernel_rfl
theorem tA_26 : isAggT Tryz.prog 26 = some true := by kernel_rfl
theorem tA_3 : isAggT Tryz.prog 3 = some false := by kernel_rfl
theorem tA_33 : isAggT Tryz.prog 33 = some false := by kernel_rfl
theorem tA_75 : isAggT Tryz.prog 75 = some true := by kernel_rfl
theorem tF_26_0 : fieldT Tryz.prog 26 0 = some 0 := by kernel_rfl
theorem tF_26_1 : fieldT Tryz.prog 26 1 = some 1 := by kernel_rfl
theorem tF_26_2 : fieldT Tryz.prog 26 2 = some 2 := by kernel_rfl
theorem tF_26_3 : fieldT Tryz.prog 26 3 = some 3 := by kernel_rfl
theorem tF_32_0 : fieldT Tryz.prog 32 0 = some 0 := by kernel_rfl
theorem tF_32_1 : fieldT Tryz.prog 32 1 = some 1 := by kernel_rfl
theorem tF_37_0 : fieldT Tryz.prog 37 0 = some 0 := by kernel_rfl
theorem tF_37_1 : fieldT Tryz.prog 37 1 = some 1 := by kernel_rfl
theorem tF_66_1 : fieldT Tryz.prog 66 1 = some 1 := by kernel_rfl
theorem tP_75 : placesT Tryz.prog 75 = some #[(0, 1), (1, 1), (2, 1)] := by kernel_rfl
theorem tS_26 : sizeT Tryz.prog 26 = some 4 := by kernel_rfl
theorem tS_75 : sizeT Tryz.prog 75 = some 3 := by kernel_rfl
theorem tZ_32 : zeroOf Tryz.prog 32 = some (.agg #[(.int .i64 0), (.int .i64 0)]) := by kernel_rfl
theorem tZ_37 : zeroOf Tryz.prog 37 = some (.agg #[(.int .i64 0), (.slice none 0 0)]) := by kernel_rfl
theorem tZ_75 : zeroOf Tryz.prog 75 = some (.agg #[(.int .i64 0), (.int .i64 0), (.string (⟨#[]⟩))]) := by kernel_rfl
theorem symbol_calls (s : SP) (x : Sym) (w : World) (hS : SpR w s) :
    Calls Tryz.prog 117 #[(.agg #[(.slice s.lA s.lex.length s.lc), (.slice s.nA s.names.length s.nc), (.int .i64 s.start), (.slice s.pA s.prods.length s.pc)]), (.agg #[(.int .i64 x.kind), (.int .i64 x.n)])] w (Ret (fun v w' => v = .int .i64 (symE s.g x) ∧ Ext w w')) := by
  have hfl := hS.fl; have hfn := hS.fn; unfold few at hfl hfn
  refine calls_xc (n := 51) (f := fun s_ => [(.agg #[(.slice s.lA s.lex.length s.lc), (.slice s.nA s.names.length s.nc), (.int .i64 s.start), (.slice s.pA s.prods.length s.pc)]), (.agg #[(.int .i64 x.kind), (.int .i64 x.n)])].getD s_ undef) Tryz.func117 rfl rfl (by simp) (fun s_ => by simp) ?_
  refine xc_seq ?_
  refine xc_region ?_
  refine xl_op (P := Tryz.prog) (some 2) rfl rfl (ox_box (v := (.agg #[(.slice s.lA s.lex.length s.lc), (.slice s.nA s.names.length s.nc), (.int .i64 s.start), (.slice s.pA s.prods.length s.pc)])) rfl ?_)
  intro w1 e1 z1 b1
  replace b1 : Blk w1 w.heap.size #[(.slice s.lA s.lex.length s.lc), (.slice s.nA s.names.length s.nc), (.int .i64 s.start), (.slice s.pA s.prods.length s.pc)] 26 := b1
  refine xl_op (P := Tryz.prog) (some 3) rfl rfl (ox_box (v := (.agg #[(.int .i64 x.kind), (.int .i64 x.n)])) rfl ?_)
  intro w2 e2 z2 b2
  replace b2 : Blk w2 w1.heap.size #[(.int .i64 x.kind), (.int .i64 x.n)] 32 := b2
  refine xl_op (P := Tryz.prog) (some 4) rfl rfl (ox_assign (v := (.int .i64 0)) rfl ?_)
  refine xl_nil ?_
  refine xc_seq ?_
  refine xc_region ?_
  refine xl_op (P := Tryz.prog) (some 5) rfl rfl (ox_assign (v := (.bool false)) rfl ?_)
  refine xl_nil ?_
  refine xc_seq ?_
  refine xc_seq ?_
  refine xc_region ?_
  refine xl_op (P := Tryz.prog) (some 6) rfl rfl (ox_fieldAddr (b := w1.heap.size) (o := 0) tF_32_0 rfl ?_)
  refine xl_op (P := Tryz.prog) (some 7) rfl rfl (ox_load (v := (.int .i64 x.kind)) tA_3 rfl (b2.cell rfl) ?_)
  refine xl_nil ?_
  refine xc_block ?_
  refine xc_seq ?_
  refine xc_region ?_
  refine xl_op (P := Tryz.prog) (some 9) rfl rfl (ox_eql (k := .i64) (a := x.kind) (b := 1) rfl rfl ?_)
  refine xl_op (P := Tryz.prog) (some 8) rfl rfl (ox_assign (v := (.bool (decide ((x.kind : Int) = 1)))) rfl ?_)
  refine xl_nil ?_
  refine xc_if (p := (x.kind : Int) = 1) rfl (fun h1 => ?_) (fun h1 => ?_)
  · skip
    refine xc_seq ?_
    refine xc_region ?_
    refine xl_op (P := Tryz.prog) (some 10) rfl rfl (ox_fieldAddr (b := w1.heap.size) (o := 0) tF_32_1 rfl ?_)
    refine xl_op (P := Tryz.prog) (some 11) rfl rfl (ox_load (v := (.int .i64 x.n)) tA_3 rfl (b2.cell rfl) ?_)
    refine xl_op (P := Tryz.prog) (some 12) rfl rfl (ox_geq (k := .i64) (a := x.n) (b := 0) rfl rfl ?_)
    refine xl_op (P := Tryz.prog) (some 13) rfl rfl (ox_move (v := (.bool (decide ((0 : Int) ≤ x.n)))) rfl ?_)
    refine xl_may (P := Tryz.prog) (some 14) (j := 3) (b := true) (((decide ((0 : Int) ≤ x.n))) = true) (.bool (decide ((0 : Int) ≤ x.n))) (.pointer (some ⟨w1.heap.size, 1, none⟩)) rfl rfl rfl (may_b ((decide ((0 : Int) ≤ x.n))) true) (fun hp => ox_fieldAddr (b := w1.heap.size) (o := 0) tF_32_1 rfl ⟨rfl, rfl⟩) ?_
    refine xl_may (P := Tryz.prog) (some 15) (j := 3) (b := true) (((decide ((0 : Int) ≤ x.n))) = true) (.bool (decide ((0 : Int) ≤ x.n))) (.int .i64 x.n) rfl rfl rfl (may_b ((decide ((0 : Int) ≤ x.n))) true) (fun hp => ox_load (v := (.int .i64 x.n)) tA_3 (if_pos (α := Value) (t := (.pointer (some ⟨w1.heap.size, 1, none⟩))) (e := undef) hp) (b2.cell rfl) ⟨rfl, rfl⟩) ?_
    refine xl_may (P := Tryz.prog) (some 16) (j := 3) (b := true) (((decide ((0 : Int) ≤ x.n))) = true) (.bool (decide ((0 : Int) ≤ x.n))) (.pointer (some ⟨w.heap.size, 0, none⟩)) rfl rfl rfl (may_b ((decide ((0 : Int) ≤ x.n))) true) (fun hp => ox_fieldAddr (b := w.heap.size) (o := 0) tF_26_0 rfl ⟨rfl, rfl⟩) ?_
    refine xl_may (P := Tryz.prog) (some 17) (j := 3) (b := true) (((decide ((0 : Int) ≤ x.n))) = true) (.bool (decide ((0 : Int) ≤ x.n))) (.slice s.lA s.lex.length s.lc) rfl rfl rfl (may_b ((decide ((0 : Int) ≤ x.n))) true) (fun hp => ox_load (v := (.slice s.lA s.lex.length s.lc)) tA_22 (if_pos (α := Value) (t := (.pointer (some ⟨w.heap.size, 0, none⟩))) (e := undef) hp) ((b1.ext e2).cell rfl) ⟨rfl, rfl⟩) ?_
    refine xl_may (P := Tryz.prog) (some 18) (j := 3) (b := true) (((decide ((0 : Int) ≤ x.n))) = true) (.bool (decide ((0 : Int) ≤ x.n))) (.int .i64 (((s.lex.length : Nat) : Int))) rfl rfl rfl (may_b ((decide ((0 : Int) ≤ x.n))) true) (fun hp => ox_len (A := s.lA) (n := s.lex.length) (cp := s.lc) rfl tU_22 (if_pos (α := Value) (t := (.slice s.lA s.lex.length s.lc)) (e := undef) hp) ⟨rfl, rfl⟩) ?_
    refine xl_may (P := Tryz.prog) (some 19) (j := 3) (b := true) (((decide ((0 : Int) ≤ x.n))) = true) (.bool (decide ((0 : Int) ≤ x.n))) (.bool (decide ((x.n : Int) < (((s.lex.length : Nat) : Int))))) rfl rfl rfl (may_b ((decide ((0 : Int) ≤ x.n))) true) (fun hp => ox_lss (k := .i64) (a := x.n) (b := (((s.lex.length : Nat) : Int))) (if_pos (α := Value) (t := (.int .i64 x.n)) (e := undef) hp) (if_pos (α := Value) (t := (.int .i64 (((s.lex.length : Nat) : Int)))) (e := undef) hp) ⟨rfl, rfl⟩) ?_
    refine xl_op (P := Tryz.prog) (some 20) rfl rfl (ox_pick_and (a := ((decide ((0 : Int) ≤ x.n)))) (b := ((decide ((x.n : Int) < (((s.lex.length : Nat) : Int)))))) rfl (fun ha => (if_pos (α := Value) (t := (.bool (decide ((x.n : Int) < (((s.lex.length : Nat) : Int)))))) (e := undef) ha)) rfl ?_)
    refine xl_op (P := Tryz.prog) (some 5) rfl rfl (ox_assign (v := (.bool (((decide ((0 : Int) ≤ x.n))) && ((decide ((x.n : Int) < (((s.lex.length : Nat) : Int)))))))) rfl ?_)
    refine xl_nil ?_
    refine xc_seq ?_
    refine xc_region ?_
    refine xl_op (P := Tryz.prog) (some 21) rfl rfl (ox_move (v := (.bool (((decide ((0 : Int) ≤ x.n))) && ((decide ((x.n : Int) < (((s.lex.length : Nat) : Int)))))))) rfl ?_)
    refine xl_op (P := Tryz.prog) (some 22) rfl rfl (ox_move (v := (.bool (((decide ((0 : Int) ≤ x.n))) && ((decide ((x.n : Int) < (((s.lex.length : Nat) : Int)))))))) rfl ?_)
    refine xl_may (P := Tryz.prog) (some 23) (j := 1) (b := true) (((((decide ((0 : Int) ≤ x.n))) && ((decide ((x.n : Int) < (((s.lex.length : Nat) : Int))))))) = true) (.bool (((decide ((0 : Int) ≤ x.n))) && ((decide ((x.n : Int) < (((s.lex.length : Nat) : Int))))))) (.pointer (some ⟨w.heap.size, 0, none⟩)) rfl rfl rfl (may_b ((((decide ((0 : Int) ≤ x.n))) && ((decide ((x.n : Int) < (((s.lex.length : Nat) : Int))))))) true) (fun hp => ox_fieldAddr (b := w.heap.size) (o := 0) tF_26_0 rfl ⟨rfl, rfl⟩) ?_
    refine xl_may (P := Tryz.prog) (some 24) (j := 1) (b := true) (((((decide ((0 : Int) ≤ x.n))) && ((decide ((x.n : Int) < (((s.lex.length : Nat) : Int))))))) = true) (.bool (((decide ((0 : Int) ≤ x.n))) && ((decide ((x.n : Int) < (((s.lex.length : Nat) : Int))))))) (.slice s.lA s.lex.length s.lc) rfl rfl rfl (may_b ((((decide ((0 : Int) ≤ x.n))) && ((decide ((x.n : Int) < (((s.lex.length : Nat) : Int))))))) true) (fun hp => ox_load (v := (.slice s.lA s.lex.length s.lc)) tA_22 (if_pos (α := Value) (t := (.pointer (some ⟨w.heap.size, 0, none⟩))) (e := undef) hp) ((b1.ext e2).cell rfl) ⟨rfl, rfl⟩) ?_
    refine xl_may (P := Tryz.prog) (some 25) (j := 1) (b := true) (((((decide ((0 : Int) ≤ x.n))) && ((decide ((x.n : Int) < (((s.lex.length : Nat) : Int))))))) = true) (.bool (((decide ((0 : Int) ≤ x.n))) && ((decide ((x.n : Int) < (((s.lex.length : Nat) : Int))))))) (.pointer (some ⟨w1.heap.size, 1, none⟩)) rfl rfl rfl (may_b ((((decide ((0 : Int) ≤ x.n))) && ((decide ((x.n : Int) < (((s.lex.length : Nat) : Int))))))) true) (fun hp => ox_fieldAddr (b := w1.heap.size) (o := 0) tF_32_1 rfl ⟨rfl, rfl⟩) ?_
    refine xl_may (P := Tryz.prog) (some 26) (j := 1) (b := true) (((((decide ((0 : Int) ≤ x.n))) && ((decide ((x.n : Int) < (((s.lex.length : Nat) : Int))))))) = true) (.bool (((decide ((0 : Int) ≤ x.n))) && ((decide ((x.n : Int) < (((s.lex.length : Nat) : Int))))))) (.int .i64 x.n) rfl rfl rfl (may_b ((((decide ((0 : Int) ≤ x.n))) && ((decide ((x.n : Int) < (((s.lex.length : Nat) : Int))))))) true) (fun hp => ox_load (v := (.int .i64 x.n)) tA_3 (if_pos (α := Value) (t := (.pointer (some ⟨w1.heap.size, 1, none⟩))) (e := undef) hp) (b2.cell rfl) ⟨rfl, rfl⟩) ?_
    have x1 : Ext w w2 := (Ext.trans e1 e2)
    obtain ⟨x_1, g_1, o_1, hx_1⟩ := row_may (A := s.lA) (cs := LR.cs) x.n.toNat LR.len (by decide) (RowA.ext hS.lex x1)
    refine xl_may (P := Tryz.prog) (some 27) (j := 1) (b := true) (((((decide ((0 : Int) ≤ x.n))) && ((decide ((x.n : Int) < (((s.lex.length : Nat) : Int))))))) = true) (.bool (((decide ((0 : Int) ≤ x.n))) && ((decide ((x.n : Int) < (((s.lex.length : Nat) : Int))))))) (.pointer (some ⟨g_1, o_1 + x.n.toNat * 8, none⟩)) rfl rfl rfl (may_b ((((decide ((0 : Int) ≤ x.n))) && ((decide ((x.n : Int) < (((s.lex.length : Nat) : Int))))))) true) (fun hp => by have hp' := hp; (try simp only [Bool.or_eq_true, Bool.and_eq_true, decide_eq_true_eq, Bool.or_eq_false_iff, Bool.and_eq_false_iff, decide_eq_false_iff_not, Bool.not_eq_true', Bool.not_eq_false'] at hp'); exact ox_ixA (b := g_1) (o := o_1) (i := x.n) x.n.toNat tE_22 (hx_1 (by omega)).2.1 (if_pos (α := Value) (t := (.slice s.lA s.lex.length s.lc)) (e := undef) hp) (if_pos (α := Value) (t := (.int .i64 x.n)) (e := undef) hp) (by omega) (by omega) ⟨rfl, rfl⟩) ?_
    refine xl_may (P := Tryz.prog) (some 28) (j := 1) (b := true) (((((decide ((0 : Int) ≤ x.n))) && ((decide ((x.n : Int) < (((s.lex.length : Nat) : Int))))))) = true) (.bool (((decide ((0 : Int) ≤ x.n))) && ((decide ((x.n : Int) < (((s.lex.length : Nat) : Int))))))) (.pointer (some ⟨g_1, o_1 + x.n.toNat * 8 + 1, none⟩)) rfl rfl rfl (may_b ((((decide ((0 : Int) ≤ x.n))) && ((decide ((x.n : Int) < (((s.lex.length : Nat) : Int))))))) true) (fun hp => ox_fieldAddr (b := g_1) (o := (o_1 + x.n.toNat * 8)) tF_66_1 (if_pos (α := Value) (t := (.pointer (some ⟨g_1, o_1 + x.n.toNat * 8, none⟩))) (e := undef) hp) ⟨rfl, rfl⟩) ?_
    refine xl_may (P := Tryz.prog) (some 29) (j := 1) (b := true) (((((decide ((0 : Int) ≤ x.n))) && ((decide ((x.n : Int) < (((s.lex.length : Nat) : Int))))))) = true) (.bool (((decide ((0 : Int) ≤ x.n))) && ((decide ((x.n : Int) < (((s.lex.length : Nat) : Int))))))) (.bool x_1.trivia) rfl rfl rfl (may_b ((((decide ((0 : Int) ≤ x.n))) && ((decide ((x.n : Int) < (((s.lex.length : Nat) : Int))))))) true) (fun hp => by have hp' := hp; (try simp only [Bool.or_eq_true, Bool.and_eq_true, decide_eq_true_eq, Bool.or_eq_false_iff, Bool.and_eq_false_iff, decide_eq_false_iff_not, Bool.not_eq_true', Bool.not_eq_false'] at hp'); exact ox_load (v := (.bool x_1.trivia)) tA_4 (if_pos (α := Value) (t := (.pointer (some ⟨g_1, o_1 + x.n.toNat * 8 + 1, none⟩))) (e := undef) hp) (CellsL.at1 (hx_1 (by omega)).2.2 1 rfl) ⟨rfl, rfl⟩) ?_
    refine xl_op (P := Tryz.prog) (some 30) rfl rfl (ox_pick_and (a := ((((decide ((0 : Int) ≤ x.n))) && ((decide ((x.n : Int) < (((s.lex.length : Nat) : Int)))))))) (b := x_1.trivia) rfl (fun ha => (if_pos (α := Value) (t := (.bool x_1.trivia)) (e := undef) ha)) rfl ?_)
    refine xl_nil ?_
    refine xc_cond (b := (((((decide ((0 : Int) ≤ x.n))) && ((decide ((x.n : Int) < (((s.lex.length : Nat) : Int))))))) && x_1.trivia)) rfl (fun h2 => ?_) (fun h2 => ?_)
    · skip
      have h2' := h2
      try simp only [Bool.or_eq_true, Bool.and_eq_true, decide_eq_true_eq, Bool.or_eq_false_iff, Bool.and_eq_false_iff, decide_eq_false_iff_not, Bool.not_eq_true', Bool.not_eq_false'] at h2'
      refine xc_seq ?_
      refine xc_region ?_
      refine xl_op (P := Tryz.prog) (some 4) rfl rfl (ox_assign (v := (.int .i64 71)) rfl ?_)
      refine xl_nil ?_
      refine xc_ret ?_
      change leaves _ _ _ _ _ _ _
      refine leaves_nil (n := 51) (rs := [.tmp 4]) (vs := [(.int .i64 71)]) rfl ⟨⟨by decide, rfl⟩, trivial⟩ ?_
      have htr : x.n.toNat < s.lex.length → s.g.triv[x.n.toNat]! = x_1.trivia := fun hh => bang_of (map_get (hx_1 hh).1)
      exact ⟨congrArg (Value.int .i64) (by have hgl := s.glex; have hgn : s.g.names = s.names.length := rfl; unfold symE; rw [hgl, hgn]; clear hS; (try have h9 := htr (by omega)); repeat' split; all_goals first | rfl | (exfalso; omega) | (simp_all; done) | (simp_all; omega)), x1⟩
    · skip
      have h2' := h2
      try simp only [Bool.or_eq_true, Bool.and_eq_true, decide_eq_true_eq, Bool.or_eq_false_iff, Bool.and_eq_false_iff, decide_eq_false_iff_not, Bool.not_eq_true', Bool.not_eq_false'] at h2'
      refine xc_skip ?_
      refine xc_seq ?_
      refine xc_seq ?_
      refine xc_region ?_
      refine xl_op (P := Tryz.prog) (some 49) rfl rfl (ox_move (v := (.bool (((decide ((0 : Int) ≤ x.n))) && ((decide ((x.n : Int) < (((s.lex.length : Nat) : Int)))))))) rfl ?_)
      refine xl_op (P := Tryz.prog) (some 50) rfl rfl (ox_not (b := ((((decide ((0 : Int) ≤ x.n))) && ((decide ((x.n : Int) < (((s.lex.length : Nat) : Int)))))))) rfl ?_)
      refine xl_nil ?_
      refine xc_cond (b := (!(((decide ((0 : Int) ≤ x.n))) && ((decide ((x.n : Int) < (((s.lex.length : Nat) : Int)))))))) rfl (fun h3 => ?_) (fun h3 => ?_)
      · skip
        have h3' := h3
        try simp only [Bool.or_eq_true, Bool.and_eq_true, decide_eq_true_eq, Bool.or_eq_false_iff, Bool.and_eq_false_iff, decide_eq_false_iff_not, Bool.not_eq_true', Bool.not_eq_false'] at h3'
        refine xc_seq ?_
        refine xc_region ?_
        refine xl_op (P := Tryz.prog) (some 4) rfl rfl (ox_assign (v := (.int .i64 70)) rfl ?_)
        refine xl_nil ?_
        refine xc_ret ?_
        change leaves _ _ _ _ _ _ _
        refine leaves_nil (n := 51) (rs := [.tmp 4]) (vs := [(.int .i64 70)]) rfl ⟨⟨by decide, rfl⟩, trivial⟩ ?_
        have htr : x.n.toNat < s.lex.length → s.g.triv[x.n.toNat]! = x_1.trivia := fun hh => bang_of (map_get (hx_1 hh).1)
        exact ⟨congrArg (Value.int .i64) (by have hgl := s.glex; have hgn : s.g.names = s.names.length := rfl; unfold symE; rw [hgl, hgn]; clear hS; (try have h9 := htr (by omega)); repeat' split; all_goals first | rfl | (exfalso; omega) | (simp_all; done) | (simp_all; omega)), x1⟩
      · skip
        have h3' := h3
        try simp only [Bool.or_eq_true, Bool.and_eq_true, decide_eq_true_eq, Bool.or_eq_false_iff, Bool.and_eq_false_iff, decide_eq_false_iff_not, Bool.not_eq_true', Bool.not_eq_false'] at h3'
        refine xc_skip ?_
        refine xc_seq ?_
        refine xc_region ?_
        refine xl_op (P := Tryz.prog) (some 4) rfl rfl (ox_assign (v := (.int .i64 0)) rfl ?_)
        refine xl_nil ?_
        refine xc_ret ?_
        change leaves _ _ _ _ _ _ _
        refine leaves_nil (n := 51) (rs := [.tmp 4]) (vs := [(.int .i64 0)]) rfl ⟨⟨by decide, rfl⟩, trivial⟩ ?_
        have htr : x.n.toNat < s.lex.length → s.g.triv[x.n.toNat]! = x_1.trivia := fun hh => bang_of (map_get (hx_1 hh).1)
        exact ⟨congrArg (Value.int .i64) (by have hgl := s.glex; have hgn : s.g.names = s.names.length := rfl; unfold symE; rw [hgl, hgn]; clear hS; (try have h9 := htr (by omega)); repeat' split; all_goals first | rfl | (exfalso; omega) | (simp_all; done) | (simp_all; omega)), x1⟩
  · skip
    refine xc_seq ?_
    refine xc_region ?_
    refine xl_op (P := Tryz.prog) (some 32) rfl rfl (ox_eql (k := .i64) (a := x.kind) (b := 2) rfl rfl ?_)
    refine xl_op (P := Tryz.prog) (some 31) rfl rfl (ox_assign (v := (.bool (decide ((x.kind : Int) = 2)))) rfl ?_)
    refine xl_nil ?_
    refine xc_if (p := (x.kind : Int) = 2) rfl (fun h4 => ?_) (fun h4 => ?_)
    · skip
      refine xc_region ?_
      refine xl_op (P := Tryz.prog) (some 33) rfl rfl (ox_fieldAddr (b := w1.heap.size) (o := 0) tF_32_1 rfl ?_)
      refine xl_op (P := Tryz.prog) (some 34) rfl rfl (ox_load (v := (.int .i64 x.n)) tA_3 rfl (b2.cell rfl) ?_)
      refine xl_op (P := Tryz.prog) (some 35) rfl rfl (ox_eql (k := .i64) (a := x.n) (b := 0) rfl rfl ?_)
      refine xl_op (P := Tryz.prog) (some 5) rfl rfl (ox_assign (v := (.bool (decide ((x.n : Int) = 0)))) rfl ?_)
      refine xl_nil ?_
      refine xc_seq ?_
      refine xc_seq ?_
      refine xc_region ?_
      refine xl_op (P := Tryz.prog) (some 49) rfl rfl (ox_move (v := (.bool (decide ((x.n : Int) = 0)))) rfl ?_)
      refine xl_op (P := Tryz.prog) (some 50) rfl rfl (ox_not (b := ((decide ((x.n : Int) = 0)))) rfl ?_)
      refine xl_nil ?_
      refine xc_cond (b := (!decide ((x.n : Int) = 0))) rfl (fun h5 => ?_) (fun h5 => ?_)
      · skip
        have h5' := h5
        try simp only [Bool.or_eq_true, Bool.and_eq_true, decide_eq_true_eq, Bool.or_eq_false_iff, Bool.and_eq_false_iff, decide_eq_false_iff_not, Bool.not_eq_true', Bool.not_eq_false'] at h5'
        refine xc_seq ?_
        refine xc_region ?_
        refine xl_op (P := Tryz.prog) (some 4) rfl rfl (ox_assign (v := (.int .i64 70)) rfl ?_)
        refine xl_nil ?_
        refine xc_ret ?_
        change leaves _ _ _ _ _ _ _
        refine leaves_nil (n := 51) (rs := [.tmp 4]) (vs := [(.int .i64 70)]) rfl ⟨⟨by decide, rfl⟩, trivial⟩ ?_
        have htr := True.intro
        have x2 : Ext w w2 := (Ext.trans e1 e2)
        exact ⟨congrArg (Value.int .i64) (by have hgl := s.glex; have hgn : s.g.names = s.names.length := rfl; unfold symE; rw [hgl, hgn]; clear hS; (try have h9 := htr (by omega)); repeat' split; all_goals first | rfl | (exfalso; omega) | (simp_all; done) | (simp_all; omega)), x2⟩
      · skip
        have h5' := h5
        try simp only [Bool.or_eq_true, Bool.and_eq_true, decide_eq_true_eq, Bool.or_eq_false_iff, Bool.and_eq_false_iff, decide_eq_false_iff_not, Bool.not_eq_true', Bool.not_eq_false'] at h5'
        refine xc_skip ?_
        refine xc_seq ?_
        refine xc_region ?_
        refine xl_op (P := Tryz.prog) (some 4) rfl rfl (ox_assign (v := (.int .i64 0)) rfl ?_)
        refine xl_nil ?_
        refine xc_ret ?_
        change leaves _ _ _ _ _ _ _
        refine leaves_nil (n := 51) (rs := [.tmp 4]) (vs := [(.int .i64 0)]) rfl ⟨⟨by decide, rfl⟩, trivial⟩ ?_
        have htr := True.intro
        have x3 : Ext w w2 := (Ext.trans e1 e2)
        exact ⟨congrArg (Value.int .i64) (by have hgl := s.glex; have hgn : s.g.names = s.names.length := rfl; unfold symE; rw [hgl, hgn]; clear hS; (try have h9 := htr (by omega)); repeat' split; all_goals first | rfl | (exfalso; omega) | (simp_all; done) | (simp_all; omega)), x3⟩
    · skip
      refine xc_seq ?_
      refine xc_region ?_
      refine xl_op (P := Tryz.prog) (some 37) rfl rfl (ox_eql (k := .i64) (a := x.kind) (b := 3) rfl rfl ?_)
      refine xl_op (P := Tryz.prog) (some 36) rfl rfl (ox_assign (v := (.bool (decide ((x.kind : Int) = 3)))) rfl ?_)
      refine xl_nil ?_
      refine xc_if (p := (x.kind : Int) = 3) rfl (fun h6 => ?_) (fun h6 => ?_)
      · skip
        refine xc_region ?_
        refine xl_op (P := Tryz.prog) (some 38) rfl rfl (ox_fieldAddr (b := w1.heap.size) (o := 0) tF_32_1 rfl ?_)
        refine xl_op (P := Tryz.prog) (some 39) rfl rfl (ox_load (v := (.int .i64 x.n)) tA_3 rfl (b2.cell rfl) ?_)
        refine xl_op (P := Tryz.prog) (some 40) rfl rfl (ox_geq (k := .i64) (a := x.n) (b := 0) rfl rfl ?_)
        refine xl_op (P := Tryz.prog) (some 41) rfl rfl (ox_move (v := (.bool (decide ((0 : Int) ≤ x.n)))) rfl ?_)
        refine xl_may (P := Tryz.prog) (some 42) (j := 3) (b := true) (((decide ((0 : Int) ≤ x.n))) = true) (.bool (decide ((0 : Int) ≤ x.n))) (.pointer (some ⟨w1.heap.size, 1, none⟩)) rfl rfl rfl (may_b ((decide ((0 : Int) ≤ x.n))) true) (fun hp => ox_fieldAddr (b := w1.heap.size) (o := 0) tF_32_1 rfl ⟨rfl, rfl⟩) ?_
        refine xl_may (P := Tryz.prog) (some 43) (j := 3) (b := true) (((decide ((0 : Int) ≤ x.n))) = true) (.bool (decide ((0 : Int) ≤ x.n))) (.int .i64 x.n) rfl rfl rfl (may_b ((decide ((0 : Int) ≤ x.n))) true) (fun hp => ox_load (v := (.int .i64 x.n)) tA_3 (if_pos (α := Value) (t := (.pointer (some ⟨w1.heap.size, 1, none⟩))) (e := undef) hp) (b2.cell rfl) ⟨rfl, rfl⟩) ?_
        refine xl_may (P := Tryz.prog) (some 44) (j := 3) (b := true) (((decide ((0 : Int) ≤ x.n))) = true) (.bool (decide ((0 : Int) ≤ x.n))) (.pointer (some ⟨w.heap.size, 1, none⟩)) rfl rfl rfl (may_b ((decide ((0 : Int) ≤ x.n))) true) (fun hp => ox_fieldAddr (b := w.heap.size) (o := 0) tF_26_1 rfl ⟨rfl, rfl⟩) ?_
        refine xl_may (P := Tryz.prog) (some 45) (j := 3) (b := true) (((decide ((0 : Int) ≤ x.n))) = true) (.bool (decide ((0 : Int) ≤ x.n))) (.slice s.nA s.names.length s.nc) rfl rfl rfl (may_b ((decide ((0 : Int) ≤ x.n))) true) (fun hp => ox_load (v := (.slice s.nA s.names.length s.nc)) tA_23 (if_pos (α := Value) (t := (.pointer (some ⟨w.heap.size, 1, none⟩))) (e := undef) hp) ((b1.ext e2).cell rfl) ⟨rfl, rfl⟩) ?_
        refine xl_may (P := Tryz.prog) (some 46) (j := 3) (b := true) (((decide ((0 : Int) ≤ x.n))) = true) (.bool (decide ((0 : Int) ≤ x.n))) (.int .i64 (((s.names.length : Nat) : Int))) rfl rfl rfl (may_b ((decide ((0 : Int) ≤ x.n))) true) (fun hp => ox_len (A := s.nA) (n := s.names.length) (cp := s.nc) rfl tU_23 (if_pos (α := Value) (t := (.slice s.nA s.names.length s.nc)) (e := undef) hp) ⟨rfl, rfl⟩) ?_
        refine xl_may (P := Tryz.prog) (some 47) (j := 3) (b := true) (((decide ((0 : Int) ≤ x.n))) = true) (.bool (decide ((0 : Int) ≤ x.n))) (.bool (decide ((x.n : Int) < (((s.names.length : Nat) : Int))))) rfl rfl rfl (may_b ((decide ((0 : Int) ≤ x.n))) true) (fun hp => ox_lss (k := .i64) (a := x.n) (b := (((s.names.length : Nat) : Int))) (if_pos (α := Value) (t := (.int .i64 x.n)) (e := undef) hp) (if_pos (α := Value) (t := (.int .i64 (((s.names.length : Nat) : Int)))) (e := undef) hp) ⟨rfl, rfl⟩) ?_
        refine xl_op (P := Tryz.prog) (some 48) rfl rfl (ox_pick_and (a := ((decide ((0 : Int) ≤ x.n)))) (b := ((decide ((x.n : Int) < (((s.names.length : Nat) : Int)))))) rfl (fun ha => (if_pos (α := Value) (t := (.bool (decide ((x.n : Int) < (((s.names.length : Nat) : Int)))))) (e := undef) ha)) rfl ?_)
        refine xl_op (P := Tryz.prog) (some 5) rfl rfl (ox_assign (v := (.bool (((decide ((0 : Int) ≤ x.n))) && ((decide ((x.n : Int) < (((s.names.length : Nat) : Int)))))))) rfl ?_)
        refine xl_nil ?_
        refine xc_seq ?_
        refine xc_seq ?_
        refine xc_region ?_
        refine xl_op (P := Tryz.prog) (some 49) rfl rfl (ox_move (v := (.bool (((decide ((0 : Int) ≤ x.n))) && ((decide ((x.n : Int) < (((s.names.length : Nat) : Int)))))))) rfl ?_)
        refine xl_op (P := Tryz.prog) (some 50) rfl rfl (ox_not (b := ((((decide ((0 : Int) ≤ x.n))) && ((decide ((x.n : Int) < (((s.names.length : Nat) : Int)))))))) rfl ?_)
        refine xl_nil ?_
        refine xc_cond (b := (!(((decide ((0 : Int) ≤ x.n))) && ((decide ((x.n : Int) < (((s.names.length : Nat) : Int)))))))) rfl (fun h7 => ?_) (fun h7 => ?_)
        · skip
          have h7' := h7
          try simp only [Bool.or_eq_true, Bool.and_eq_true, decide_eq_true_eq, Bool.or_eq_false_iff, Bool.and_eq_false_iff, decide_eq_false_iff_not, Bool.not_eq_true', Bool.not_eq_false'] at h7'
          refine xc_seq ?_
          refine xc_region ?_
          refine xl_op (P := Tryz.prog) (some 4) rfl rfl (ox_assign (v := (.int .i64 70)) rfl ?_)
          refine xl_nil ?_
          refine xc_ret ?_
          change leaves _ _ _ _ _ _ _
          refine leaves_nil (n := 51) (rs := [.tmp 4]) (vs := [(.int .i64 70)]) rfl ⟨⟨by decide, rfl⟩, trivial⟩ ?_
          have htr := True.intro
          have x4 : Ext w w2 := (Ext.trans e1 e2)
          exact ⟨congrArg (Value.int .i64) (by have hgl := s.glex; have hgn : s.g.names = s.names.length := rfl; unfold symE; rw [hgl, hgn]; clear hS; (try have h9 := htr (by omega)); repeat' split; all_goals first | rfl | (exfalso; omega) | (simp_all; done) | (simp_all; omega)), x4⟩
        · skip
          have h7' := h7
          try simp only [Bool.or_eq_true, Bool.and_eq_true, decide_eq_true_eq, Bool.or_eq_false_iff, Bool.and_eq_false_iff, decide_eq_false_iff_not, Bool.not_eq_true', Bool.not_eq_false'] at h7'
          refine xc_skip ?_
          refine xc_seq ?_
          refine xc_region ?_
          refine xl_op (P := Tryz.prog) (some 4) rfl rfl (ox_assign (v := (.int .i64 0)) rfl ?_)
          refine xl_nil ?_
          refine xc_ret ?_
          change leaves _ _ _ _ _ _ _
          refine leaves_nil (n := 51) (rs := [.tmp 4]) (vs := [(.int .i64 0)]) rfl ⟨⟨by decide, rfl⟩, trivial⟩ ?_
          have htr := True.intro
          have x5 : Ext w w2 := (Ext.trans e1 e2)
          exact ⟨congrArg (Value.int .i64) (by have hgl := s.glex; have hgn : s.g.names = s.names.length := rfl; unfold symE; rw [hgl, hgn]; clear hS; (try have h9 := htr (by omega)); repeat' split; all_goals first | rfl | (exfalso; omega) | (simp_all; done) | (simp_all; omega)), x5⟩
      · skip
        refine xc_skip ?_
        refine xc_seq ?_
        refine xc_seq ?_
        refine xc_region ?_
        refine xl_op (P := Tryz.prog) (some 49) rfl rfl (ox_move (v := (.bool false)) rfl ?_)
        refine xl_op (P := Tryz.prog) (some 50) rfl rfl (ox_not (b := false) rfl ?_)
        refine xl_nil ?_
        refine xc_cond_t rfl ?_
        refine xc_seq ?_
        refine xc_region ?_
        refine xl_op (P := Tryz.prog) (some 4) rfl rfl (ox_assign (v := (.int .i64 70)) rfl ?_)
        refine xl_nil ?_
        refine xc_ret ?_
        change leaves _ _ _ _ _ _ _
        refine leaves_nil (n := 51) (rs := [.tmp 4]) (vs := [(.int .i64 70)]) rfl ⟨⟨by decide, rfl⟩, trivial⟩ ?_
        have htr := True.intro
        have x6 : Ext w w2 := (Ext.trans e1 e2)
        exact ⟨congrArg (Value.int .i64) (by have hgl := s.glex; have hgn : s.g.names = s.names.length := rfl; unfold symE; rw [hgl, hgn]; clear hS; (try have h9 := htr (by omega)); repeat' split; all_goals first | rfl | (exfalso; omega) | (simp_all; done) | (simp_all; omega)), x6⟩
theorem long1_calls (p : PD) (w : World)  :
    Calls Tryz.prog 116 #[(.agg #[(.int .i64 p.left), (.slice p.rA p.right.length p.rc)])] w (Ret (fun v w' => v = .bool (decide (16 < (p.right.length : Int))) ∧ Ext w w')) := by
  refine calls_xc (n := 7) (f := fun s_ => [(.agg #[(.int .i64 p.left), (.slice p.rA p.right.length p.rc)])].getD s_ undef) Tryz.func116 rfl rfl (by simp) (fun s_ => by simp) ?_
  refine xc_seq ?_
  refine xc_region ?_
  refine xl_op (P := Tryz.prog) (some 1) rfl rfl (ox_box (v := (.agg #[(.int .i64 p.left), (.slice p.rA p.right.length p.rc)])) rfl ?_)
  intro w1 e1 z1 b1
  replace b1 : Blk w1 w.heap.size #[(.int .i64 p.left), (.slice p.rA p.right.length p.rc)] 37 := b1
  refine xl_op (P := Tryz.prog) (some 2) rfl rfl (ox_assign (v := (.bool false)) rfl ?_)
  refine xl_nil ?_
  refine xc_seq ?_
  refine xc_region ?_
  refine xl_op (P := Tryz.prog) (some 3) rfl rfl (ox_fieldAddr (b := w.heap.size) (o := 0) tF_37_1 rfl ?_)
  refine xl_op (P := Tryz.prog) (some 4) rfl rfl (ox_load (v := (.slice p.rA p.right.length p.rc)) tA_33 rfl (b1.cell rfl) ?_)
  refine xl_op (P := Tryz.prog) (some 5) rfl rfl (ox_len (A := p.rA) (n := p.right.length) (cp := p.rc) rfl tU_33 rfl ?_)
  refine xl_op (P := Tryz.prog) (some 6) rfl rfl (ox_gtr (k := .i64) (a := (((p.right.length : Nat) : Int))) (b := 16) rfl rfl ?_)
  refine xl_op (P := Tryz.prog) (some 2) rfl rfl (ox_assign (v := (.bool (decide ((16 : Int) < (((p.right.length : Nat) : Int)))))) rfl ?_)
  refine xl_nil ?_
  refine xc_ret ?_
  change leaves _ _ _ _ _ _ _
  refine leaves_nil (n := 7) (rs := [.tmp 2]) (vs := [(.bool (decide ((16 : Int) < (((p.right.length : Nat) : Int)))))]) rfl ⟨⟨by decide, rfl⟩, trivial⟩ ?_
  exact ⟨rfl, e1⟩
theorem long_calls (s : SP) (w : World) (hS : SpR w s) :
    Calls Tryz.prog 86 #[(.agg #[(.slice s.lA s.lex.length s.lc), (.slice s.nA s.names.length s.nc), (.int .i64 s.start), (.slice s.pA s.prods.length s.pc)])] w (Ret (fun v w' => v = .bool (longG s.g) ∧ Ext w w')) := by
  refine calls_xc (n := 24) (f := fun s_ => [(.agg #[(.slice s.lA s.lex.length s.lc), (.slice s.nA s.names.length s.nc), (.int .i64 s.start), (.slice s.pA s.prods.length s.pc)])].getD s_ undef) Tryz.func86 rfl rfl (by simp) (fun s_ => by simp) ?_
  refine xc_seq ?_
  refine xc_region ?_
  refine xl_op (P := Tryz.prog) (some 1) rfl rfl (ox_box (v := (.agg #[(.slice s.lA s.lex.length s.lc), (.slice s.nA s.names.length s.nc), (.int .i64 s.start), (.slice s.pA s.prods.length s.pc)])) rfl ?_)
  intro w1 e1 z1 b1
  replace b1 : Blk w1 w.heap.size #[(.slice s.lA s.lex.length s.lc), (.slice s.nA s.names.length s.nc), (.int .i64 s.start), (.slice s.pA s.prods.length s.pc)] 26 := b1
  refine xl_op (P := Tryz.prog) (some 2) rfl rfl (ox_assign (v := (.bool false)) rfl ?_)
  refine xl_nil ?_
  refine xc_seq ?_
  refine xc_region ?_
  refine xl_op (P := Tryz.prog) (some 3) rfl rfl (ox_fieldAddr (b := w.heap.size) (o := 0) tF_26_0 rfl ?_)
  refine xl_op (P := Tryz.prog) (some 4) rfl rfl (ox_load (v := (.slice s.lA s.lex.length s.lc)) tA_22 rfl (b1.cell rfl) ?_)
  refine xl_op (P := Tryz.prog) (some 5) rfl rfl (ox_len (A := s.lA) (n := s.lex.length) (cp := s.lc) rfl tU_22 rfl ?_)
  refine xl_op (P := Tryz.prog) (some 6) rfl rfl (ox_gtr (k := .i64) (a := (((s.lex.length : Nat) : Int))) (b := 64) rfl rfl ?_)
  refine xl_op (P := Tryz.prog) (some 7) rfl rfl (ox_move (v := (.bool (decide ((64 : Int) < (((s.lex.length : Nat) : Int)))))) rfl ?_)
  by_cases h1 : (64 : Int) < (((s.lex.length : Nat) : Int))
  · skip
    refine xl_skip (some 8) (j := 4) (b := false) true rfl rfl (congrArg some (decide_eq_true h1)) (by decide) ?_
    refine xl_skip (some 9) (j := 4) (b := false) true rfl rfl (congrArg some (decide_eq_true h1)) (by decide) ?_
    refine xl_skip (some 10) (j := 4) (b := false) true rfl rfl (congrArg some (decide_eq_true h1)) (by decide) ?_
    refine xl_skip (some 11) (j := 4) (b := false) true rfl rfl (congrArg some (decide_eq_true h1)) (by decide) ?_
    refine xl_op (P := Tryz.prog) (some 12) rfl rfl (ox_pick_t (v := (.bool true)) (congrArg Value.bool (decide_eq_true h1)) rfl ?_)
    refine xl_op (P := Tryz.prog) (some 13) rfl rfl (ox_move (v := (.bool true)) rfl ?_)
    refine xl_skip (some 14) (j := 10) (b := false) true rfl rfl rfl (by decide) ?_
    refine xl_skip (some 15) (j := 10) (b := false) true rfl rfl rfl (by decide) ?_
    refine xl_skip (some 16) (j := 10) (b := false) true rfl rfl rfl (by decide) ?_
    refine xl_skip (some 17) (j := 10) (b := false) true rfl rfl rfl (by decide) ?_
    refine xl_op (P := Tryz.prog) (some 18) rfl rfl (ox_pick_t (v := (.bool true)) rfl rfl ?_)
    refine xl_op (P := Tryz.prog) (some 19) rfl rfl (ox_move (v := (.bool true)) rfl ?_)
    refine xl_skip (some 20) (j := 16) (b := false) true rfl rfl rfl (by decide) ?_
    refine xl_skip (some 21) (j := 16) (b := false) true rfl rfl rfl (by decide) ?_
    refine xl_skip (some 22) (j := 16) (b := false) true rfl rfl rfl (by decide) ?_
    refine xl_op (P := Tryz.prog) (some 23) rfl rfl (ox_pick_t (v := (.bool true)) rfl rfl ?_)
    refine xl_op (P := Tryz.prog) (some 2) rfl rfl (ox_assign (v := (.bool true)) rfl ?_)
    refine xl_nil ?_
    refine xc_ret ?_
    change leaves _ _ _ _ _ _ _
    refine leaves_nil (n := 24) (rs := [.tmp 2]) (vs := [(.bool true)]) rfl ⟨⟨by decide, rfl⟩, trivial⟩ ?_
    exact ⟨congrArg Value.bool (by unfold longG; rw [s.glex, s.gprods, show s.g.names = s.names.length from rfl, show s.g.prods.any (fun p => decide (16 < (p.2.length : Int))) = s.prods.any (fun p => decide (16 < (p.right.length : Int))) from List.any_map]; (try simp only [decide_eq_true_eq] at *); first | (simp_all; done) | (rw [Bool.eq_iff_iff]; simp_all; omega)), e1⟩
  · skip
    refine xl_opg (P := Tryz.prog) (some 8) (j := 4) (b := false) rfl rfl (congrArg some (decide_eq_false h1)) (ox_fieldAddr (b := w.heap.size) (o := 0) tF_26_1 rfl ?_)
    refine xl_opg (P := Tryz.prog) (some 9) (j := 4) (b := false) rfl rfl (congrArg some (decide_eq_false h1)) (ox_load (v := (.slice s.nA s.names.length s.nc)) tA_23 rfl (b1.cell rfl) ?_)
    refine xl_opg (P := Tryz.prog) (some 10) (j := 4) (b := false) rfl rfl (congrArg some (decide_eq_false h1)) (ox_len (A := s.nA) (n := s.names.length) (cp := s.nc) rfl tU_23 rfl ?_)
    refine xl_opg (P := Tryz.prog) (some 11) (j := 4) (b := false) rfl rfl (congrArg some (decide_eq_false h1)) (ox_gtr (k := .i64) (a := (((s.names.length : Nat) : Int))) (b := 128) rfl rfl ?_)
    refine xl_op (P := Tryz.prog) (some 12) rfl rfl (ox_pick_f (v := (.bool (decide ((128 : Int) < (((s.names.length : Nat) : Int)))))) (congrArg Value.bool (decide_eq_false h1)) rfl ?_)
    refine xl_op (P := Tryz.prog) (some 13) rfl rfl (ox_move (v := (.bool (decide ((128 : Int) < (((s.names.length : Nat) : Int)))))) rfl ?_)
    by_cases h2 : (128 : Int) < (((s.names.length : Nat) : Int))
    · skip
      refine xl_skip (some 14) (j := 10) (b := false) true rfl rfl (congrArg some (decide_eq_true h2)) (by decide) ?_
      refine xl_skip (some 15) (j := 10) (b := false) true rfl rfl (congrArg some (decide_eq_true h2)) (by decide) ?_
      refine xl_skip (some 16) (j := 10) (b := false) true rfl rfl (congrArg some (decide_eq_true h2)) (by decide) ?_
      refine xl_skip (some 17) (j := 10) (b := false) true rfl rfl (congrArg some (decide_eq_true h2)) (by decide) ?_
      refine xl_op (P := Tryz.prog) (some 18) rfl rfl (ox_pick_t (v := (.bool true)) (congrArg Value.bool (decide_eq_true h2)) rfl ?_)
      refine xl_op (P := Tryz.prog) (some 19) rfl rfl (ox_move (v := (.bool true)) rfl ?_)
      refine xl_skip (some 20) (j := 16) (b := false) true rfl rfl rfl (by decide) ?_
      refine xl_skip (some 21) (j := 16) (b := false) true rfl rfl rfl (by decide) ?_
      refine xl_skip (some 22) (j := 16) (b := false) true rfl rfl rfl (by decide) ?_
      refine xl_op (P := Tryz.prog) (some 23) rfl rfl (ox_pick_t (v := (.bool true)) rfl rfl ?_)
      refine xl_op (P := Tryz.prog) (some 2) rfl rfl (ox_assign (v := (.bool true)) rfl ?_)
      refine xl_nil ?_
      refine xc_ret ?_
      change leaves _ _ _ _ _ _ _
      refine leaves_nil (n := 24) (rs := [.tmp 2]) (vs := [(.bool true)]) rfl ⟨⟨by decide, rfl⟩, trivial⟩ ?_
      exact ⟨congrArg Value.bool (by unfold longG; rw [s.glex, s.gprods, show s.g.names = s.names.length from rfl, show s.g.prods.any (fun p => decide (16 < (p.2.length : Int))) = s.prods.any (fun p => decide (16 < (p.right.length : Int))) from List.any_map]; (try simp only [decide_eq_true_eq] at *); first | (simp_all; done) | (rw [Bool.eq_iff_iff]; simp_all; omega)), e1⟩
    · skip
      refine xl_opg (P := Tryz.prog) (some 14) (j := 10) (b := false) rfl rfl (congrArg some (decide_eq_false h2)) (ox_fieldAddr (b := w.heap.size) (o := 0) tF_26_3 rfl ?_)
      refine xl_opg (P := Tryz.prog) (some 15) (j := 10) (b := false) rfl rfl (congrArg some (decide_eq_false h2)) (ox_load (v := (.slice s.pA s.prods.length s.pc)) tA_24 rfl (b1.cell rfl) ?_)
      refine xl_opg (P := Tryz.prog) (some 16) (j := 10) (b := false) rfl rfl (congrArg some (decide_eq_false h2)) (ox_len (A := s.pA) (n := s.prods.length) (cp := s.pc) rfl tU_24 rfl ?_)
      refine xl_opg (P := Tryz.prog) (some 17) (j := 10) (b := false) rfl rfl (congrArg some (decide_eq_false h2)) (ox_gtr (k := .i64) (a := (((s.prods.length : Nat) : Int))) (b := 512) rfl rfl ?_)
      refine xl_op (P := Tryz.prog) (some 18) rfl rfl (ox_pick_f (v := (.bool (decide ((512 : Int) < (((s.prods.length : Nat) : Int)))))) (congrArg Value.bool (decide_eq_false h2)) rfl ?_)
      refine xl_op (P := Tryz.prog) (some 19) rfl rfl (ox_move (v := (.bool (decide ((512 : Int) < (((s.prods.length : Nat) : Int)))))) rfl ?_)
      by_cases h3 : (512 : Int) < (((s.prods.length : Nat) : Int))
      · skip
        refine xl_skip (some 20) (j := 16) (b := false) true rfl rfl (congrArg some (decide_eq_true h3)) (by decide) ?_
        refine xl_skip (some 21) (j := 16) (b := false) true rfl rfl (congrArg some (decide_eq_true h3)) (by decide) ?_
        refine xl_skip (some 22) (j := 16) (b := false) true rfl rfl (congrArg some (decide_eq_true h3)) (by decide) ?_
        refine xl_op (P := Tryz.prog) (some 23) rfl rfl (ox_pick_t (v := (.bool true)) (congrArg Value.bool (decide_eq_true h3)) rfl ?_)
        refine xl_op (P := Tryz.prog) (some 2) rfl rfl (ox_assign (v := (.bool true)) rfl ?_)
        refine xl_nil ?_
        refine xc_ret ?_
        change leaves _ _ _ _ _ _ _
        refine leaves_nil (n := 24) (rs := [.tmp 2]) (vs := [(.bool true)]) rfl ⟨⟨by decide, rfl⟩, trivial⟩ ?_
        exact ⟨congrArg Value.bool (by unfold longG; rw [s.glex, s.gprods, show s.g.names = s.names.length from rfl, show s.g.prods.any (fun p => decide (16 < (p.2.length : Int))) = s.prods.any (fun p => decide (16 < (p.right.length : Int))) from List.any_map]; (try simp only [decide_eq_true_eq] at *); first | (simp_all; done) | (rw [Bool.eq_iff_iff]; simp_all; omega)), e1⟩
      · skip
        refine xl_opg (P := Tryz.prog) (some 20) (j := 16) (b := false) rfl rfl (congrArg some (decide_eq_false h3)) (ox_fieldAddr (b := w.heap.size) (o := 0) tF_26_3 rfl ?_)
        refine xl_opg (P := Tryz.prog) (some 21) (j := 16) (b := false) rfl rfl (congrArg some (decide_eq_false h3)) (ox_load (v := (.slice s.pA s.prods.length s.pc)) tA_24 rfl (b1.cell rfl) ?_)
        refine xl_opg (P := Tryz.prog) (some 22) (j := 16) (b := false) rfl rfl (congrArg some (decide_eq_false h3)) (ox_callE (al := [(.slice s.pA s.prods.length s.pc), (.func (.func 116) #[] #[])]) pf_115 rfl (ret_mono (containsFPD s.prods s.pA s.pc (fun p => decide (16 < (p.right.length : Int))) 116 [] w1 (RowA.ext hS.prods e1) (by exact hS.fp.le) pf_116 (fun p _ W _ => long1_calls p W)) ?_))
        rintro _ w2 ⟨rfl, e2⟩
        have he2 := e2.size
        refine xl_op (P := Tryz.prog) (some 23) rfl rfl (ox_pick_f (v := (.bool (s.prods.any (fun p => decide (16 < (p.right.length : Int)))))) (congrArg Value.bool (decide_eq_false h3)) rfl ?_)
        refine xl_op (P := Tryz.prog) (some 2) rfl rfl (ox_assign (v := (.bool (s.prods.any (fun p => decide (16 < (p.right.length : Int)))))) rfl ?_)
        refine xl_nil ?_
        refine xc_ret ?_
        change leaves _ _ _ _ _ _ _
        refine leaves_nil (n := 24) (rs := [.tmp 2]) (vs := [(.bool (s.prods.any (fun p => decide (16 < (p.right.length : Int)))))]) rfl ⟨⟨by decide, rfl⟩, trivial⟩ ?_
        have x1 : Ext w w2 := (Ext.trans e1 e2)
        exact ⟨congrArg Value.bool (by unfold longG; rw [s.glex, s.gprods, show s.g.names = s.names.length from rfl, show s.g.prods.any (fun p => decide (16 < (p.2.length : Int))) = s.prods.any (fun p => decide (16 < (p.right.length : Int))) from List.any_map]; (try simp only [decide_eq_true_eq] at *); first | (simp_all; done) | (rw [Bool.eq_iff_iff]; simp_all; omega)), x1⟩
theorem indices_calls (s : SP) (w : World) (hS : SpR w s) :
    Calls Tryz.prog 87 #[(.agg #[(.slice s.lA s.lex.length s.lc), (.slice s.nA s.names.length s.nc), (.int .i64 s.start), (.slice s.pA s.prods.length s.pc)])] w (Ret (fun v w' => v = faultV (indG s.g).1 (indG s.g).2 ∧ Ext w w')) := by
  have hfp := hS.fp; have hfr := hS.fr; have hfn := hS.fn; unfold few at hfp hfr hfn
  refine calls_xc (n := 59) (f := fun s_ => [(.agg #[(.slice s.lA s.lex.length s.lc), (.slice s.nA s.names.length s.nc), (.int .i64 s.start), (.slice s.pA s.prods.length s.pc)])].getD s_ undef) Tryz.func87 rfl rfl (by simp) (fun s_ => by simp) ?_
  refine xc_seq ?_
  refine xc_region ?_
  refine xl_op (P := Tryz.prog) (some 1) rfl rfl (ox_box (v := (.agg #[(.slice s.lA s.lex.length s.lc), (.slice s.nA s.names.length s.nc), (.int .i64 s.start), (.slice s.pA s.prods.length s.pc)])) rfl ?_)
  intro w1 e1 z1 b1
  replace b1 : Blk w1 w.heap.size #[(.slice s.lA s.lex.length s.lc), (.slice s.nA s.names.length s.nc), (.int .i64 s.start), (.slice s.pA s.prods.length s.pc)] 26 := b1
  refine xl_op (P := Tryz.prog) (some 2) rfl rfl (ox_alloc tZ_75 ?_)
  intro w2 e2 z2 b2
  replace b2 : Blk w2 w1.heap.size #[(.int .i64 0), (.int .i64 0), (.string (⟨#[]⟩))] 75 := b2
  refine xl_nil ?_
  refine xc_seq ?_
  refine xc_seq ?_
  refine xc_region ?_
  refine xl_op (P := Tryz.prog) (some 8) rfl rfl (ox_fieldAddr (b := w.heap.size) (o := 0) tF_26_2 rfl ?_)
  refine xl_op (P := Tryz.prog) (some 9) rfl rfl (ox_load (v := (.int .i64 s.start)) tA_3 rfl ((b1.ext e2).cell rfl) ?_)
  refine xl_op (P := Tryz.prog) (some 10) rfl rfl (ox_lss (k := .i64) (a := s.start) (b := 0) rfl rfl ?_)
  refine xl_op (P := Tryz.prog) (some 11) rfl rfl (ox_move (v := (.bool (decide ((s.start : Int) < 0)))) rfl ?_)
  refine xl_may (P := Tryz.prog) (some 12) (j := 3) (b := false) (((decide ((s.start : Int) < 0))) = false) (.bool (decide ((s.start : Int) < 0))) (.pointer (some ⟨w.heap.size, 2, none⟩)) rfl rfl rfl (may_b ((decide ((s.start : Int) < 0))) false) (fun hp => ox_fieldAddr (b := w.heap.size) (o := 0) tF_26_2 rfl ⟨rfl, rfl⟩) ?_
  refine xl_may (P := Tryz.prog) (some 13) (j := 3) (b := false) (((decide ((s.start : Int) < 0))) = false) (.bool (decide ((s.start : Int) < 0))) (.int .i64 s.start) rfl rfl rfl (may_b ((decide ((s.start : Int) < 0))) false) (fun hp => ox_load (v := (.int .i64 s.start)) tA_3 (if_pos (α := Value) (t := (.pointer (some ⟨w.heap.size, 2, none⟩))) (e := undef) hp) ((b1.ext e2).cell rfl) ⟨rfl, rfl⟩) ?_
  refine xl_may (P := Tryz.prog) (some 14) (j := 3) (b := false) (((decide ((s.start : Int) < 0))) = false) (.bool (decide ((s.start : Int) < 0))) (.pointer (some ⟨w.heap.size, 1, none⟩)) rfl rfl rfl (may_b ((decide ((s.start : Int) < 0))) false) (fun hp => ox_fieldAddr (b := w.heap.size) (o := 0) tF_26_1 rfl ⟨rfl, rfl⟩) ?_
  refine xl_may (P := Tryz.prog) (some 15) (j := 3) (b := false) (((decide ((s.start : Int) < 0))) = false) (.bool (decide ((s.start : Int) < 0))) (.slice s.nA s.names.length s.nc) rfl rfl rfl (may_b ((decide ((s.start : Int) < 0))) false) (fun hp => ox_load (v := (.slice s.nA s.names.length s.nc)) tA_23 (if_pos (α := Value) (t := (.pointer (some ⟨w.heap.size, 1, none⟩))) (e := undef) hp) ((b1.ext e2).cell rfl) ⟨rfl, rfl⟩) ?_
  refine xl_may (P := Tryz.prog) (some 16) (j := 3) (b := false) (((decide ((s.start : Int) < 0))) = false) (.bool (decide ((s.start : Int) < 0))) (.int .i64 (((s.names.length : Nat) : Int))) rfl rfl rfl (may_b ((decide ((s.start : Int) < 0))) false) (fun hp => ox_len (A := s.nA) (n := s.names.length) (cp := s.nc) rfl tU_23 (if_pos (α := Value) (t := (.slice s.nA s.names.length s.nc)) (e := undef) hp) ⟨rfl, rfl⟩) ?_
  refine xl_may (P := Tryz.prog) (some 17) (j := 3) (b := false) (((decide ((s.start : Int) < 0))) = false) (.bool (decide ((s.start : Int) < 0))) (.bool (decide ((((s.names.length : Nat) : Int) : Int) ≤ s.start))) rfl rfl rfl (may_b ((decide ((s.start : Int) < 0))) false) (fun hp => ox_geq (k := .i64) (a := s.start) (b := (((s.names.length : Nat) : Int))) (if_pos (α := Value) (t := (.int .i64 s.start)) (e := undef) hp) (if_pos (α := Value) (t := (.int .i64 (((s.names.length : Nat) : Int)))) (e := undef) hp) ⟨rfl, rfl⟩) ?_
  refine xl_op (P := Tryz.prog) (some 18) rfl rfl (ox_pick_or (a := ((decide ((s.start : Int) < 0)))) (b := ((decide ((((s.names.length : Nat) : Int) : Int) ≤ s.start)))) rfl rfl (fun ha => (if_pos (α := Value) (t := (.bool (decide ((((s.names.length : Nat) : Int) : Int) ≤ s.start)))) (e := undef) ha)) ?_)
  refine xl_nil ?_
  refine xc_cond (b := (((decide ((s.start : Int) < 0))) || ((decide ((((s.names.length : Nat) : Int) : Int) ≤ s.start))))) rfl (fun h1 => ?_) (fun h1 => ?_)
  · skip
    have h1' := h1
    try simp only [Bool.or_eq_true, Bool.and_eq_true, decide_eq_true_eq, Bool.or_eq_false_iff, Bool.and_eq_false_iff, decide_eq_false_iff_not, Bool.not_eq_true', Bool.not_eq_false'] at h1'
    refine xc_seq ?_
    refine xc_region ?_
    refine xl_op (P := Tryz.prog) (some 19) rfl rfl (ox_mkStruct (ps := [(0, (.int .i64 70)), (1, (.int .i64 (-1)))]) (cs := #[(.int .i64 70), (.int .i64 (-1)), (.string (⟨#[]⟩))]) tZ_75 tP_75 rfl (by kernel_rfl) ?_)
    refine xl_op (P := Tryz.prog) none rfl rfl (ox_store (n := 3) (vs := [(.int .i64 70), (.int .i64 (-1)), (.string (⟨#[]⟩))]) tS_75 rfl (v := (.agg #[(.int .i64 70), (.int .i64 (-1)), (.string (⟨#[]⟩))])) rfl rfl rfl rfl b2 (Nat.le_of_ble_eq_true rfl) ?_)
    intro w3 e3 z3 b3
    replace b3 : Blk w3 w1.heap.size #[(.int .i64 70), (.int .i64 (-1)), (.string (⟨#[]⟩))] 75 := blk_full b3 rfl
    refine xl_nil ?_
    refine xc_ret ?_
    change leaves _ _ _ _ _ _ _
    refine leaves_nil (n := 59) (rs := [.cell 2 75]) (vs := [(.agg #[(.int .i64 70), (.int .i64 (-1)), (.string (⟨#[]⟩))])]) rfl ⟨⟨by decide, w1.heap.size, 0, 3, [(.int .i64 70), (.int .i64 (-1)), (.string (⟨#[]⟩))], rfl, tA_75, tS_75, rfl, ⟨b3.cell rfl, b3.cell rfl, b3.cell rfl, trivial⟩, rfl⟩, trivial⟩ ?_
    have x1 : Ext w w3 := (Ext.chg1 (Ext.trans e1 e2) e3 (by omega))
    exact ⟨by rw [indG_start (by show s.start < 0 ∨ (s.names.length : Int) ≤ s.start; omega)]; rfl, x1⟩
  · skip
    have h1' := h1
    try simp only [Bool.or_eq_true, Bool.and_eq_true, decide_eq_true_eq, Bool.or_eq_false_iff, Bool.and_eq_false_iff, decide_eq_false_iff_not, Bool.not_eq_true', Bool.not_eq_false'] at h1'
    have hst : 0 ≤ s.start ∧ s.start < (s.names.length : Int) := by omega
    refine xc_skip ?_
    refine xc_seq ?_
    refine xc_seq ?_
    refine xc_region ?_
    refine xl_op (P := Tryz.prog) (some 20) rfl rfl (ox_fieldAddr (b := w.heap.size) (o := 0) tF_26_3 rfl ?_)
    refine xl_op (P := Tryz.prog) (some 21) rfl rfl (ox_load (v := (.slice s.pA s.prods.length s.pc)) tA_24 rfl ((b1.ext e2).cell rfl) ?_)
    refine xl_op (P := Tryz.prog) (some 22) rfl rfl (ox_len (A := s.pA) (n := s.prods.length) (cp := s.pc) rfl tU_24 rfl ?_)
    refine xl_op (P := Tryz.prog) (some 23) rfl rfl (ox_move (v := (.int .i64 0)) rfl ?_)
    refine xl_nil ?_
    refine xc_block ?_
    refine xc_loopN (fun m_ f_ Wx => ∃ (i : Nat), m_ = s.prods.length - i ∧ (i ≤ s.prods.length) ∧ (indP s.g s.g.prods 0 = indP s.g (s.g.prods.drop i) i) ∧ f_ 1 = (.pointer (some ⟨w.heap.size, 0, none⟩)) ∧ f_ 2 = (.pointer (some ⟨w1.heap.size, 0, none⟩)) ∧ f_ 21 = (.slice s.pA s.prods.length s.pc) ∧ f_ 22 = (.int .i64 (((s.prods.length : Nat) : Int))) ∧ f_ 23 = (.int .i64 ((i : Nat))) ∧ Ext w2 Wx) (s.prods.length) ?_ ?_
    · exact ⟨0, (by omega), (by omega), (by simp), rfl, rfl, rfl, rfl, (by first | exact rfl | exact (congrArg (Value.int .i64) (by omega))), (Chg.refl _ _)⟩
    · rintro m_ f1 w4 ⟨i, hm_f1, hi, hq, g1_f1, g2_f1, g21_f1, g22_f1, g23_f1, x2⟩
      have hx2 := x2.size
      refine xc_seq ?_
      refine xc_region ?_
      refine xl_op (P := Tryz.prog) (some 24) rfl rfl (ox_lss (k := .i64) (a := ((i : Nat))) (b := (((s.prods.length : Nat) : Int))) g23_f1 g22_f1 ?_)
      refine xl_nil ?_
      refine xc_seq ?_
      refine xc_if (p := ((i : Nat) : Int) < (((s.prods.length : Nat) : Int))) rfl (fun h2 => ?_) (fun h2 => ?_)
      · skip
        refine xc_skip ?_
        refine xc_seq ?_
        refine xc_block ?_
        refine xc_seq ?_
        refine xc_region ?_
        refine xl_op (P := Tryz.prog) (some 25) rfl rfl (ox_move (v := (.int .i64 ((i : Nat)))) g23_f1 ?_)
        have x3 : Ext w w4 := (Ext.trans (Ext.trans e1 e2) x2)
        obtain ⟨x_1, g_1, o_1, hx_1⟩ := row_may (A := s.pA) (cs := PD.cs) i PD.len (by decide) (RowA.ext hS.prods x3)
        obtain ⟨hx_2, hA_1, hc_1⟩ := hx_1 (by first | omega | (simp only [List.length_drop, List.length_replicate, List.length_set, List.length_append, List.length_map, List.length_singleton] at *; omega))
        have hfr_x_1 := (hS.fr _ (List.mem_of_getElem? hx_2)).le
        refine xl_op (P := Tryz.prog) (some 26) rfl rfl (ox_ixA (b := g_1) (o := o_1) (i := ((i : Nat))) i tE_24 hA_1 g21_f1 g23_f1 rfl (by omega) ?_)
        refine xl_op (P := Tryz.prog) (some 27) rfl rfl (ox_loadN (vs := [(.int .i64 x_1.left), (.slice x_1.rA x_1.right.length x_1.rc)]) tA_37 tS_37 rfl rfl hc_1 ?_)
        refine xl_op (P := Tryz.prog) (some 4) rfl rfl (ox_alloc tZ_37 ?_)
        intro w5 e4 z4 b4
        replace b4 : Blk w5 w4.heap.size #[(.int .i64 0), (.slice none 0 0)] 37 := b4
        refine xl_op (P := Tryz.prog) (some 3) rfl rfl (ox_assign (v := (.int .i64 ((i : Nat)))) rfl ?_)
        refine xl_op (P := Tryz.prog) none rfl rfl (ox_store (n := 2) (vs := [(.int .i64 x_1.left), (.slice x_1.rA x_1.right.length x_1.rc)]) tS_37 rfl (v := (.agg #[(.int .i64 x_1.left), (.slice x_1.rA x_1.right.length x_1.rc)])) rfl rfl rfl rfl b4 (Nat.le_of_ble_eq_true rfl) ?_)
        intro w6 e5 z5 b5
        replace b5 : Blk w6 w4.heap.size #[(.int .i64 x_1.left), (.slice x_1.rA x_1.right.length x_1.rc)] 37 := blk_full b5 rfl
        refine xl_nil ?_
        refine xc_seq ?_
        refine xc_seq ?_
        refine xc_region ?_
        refine xl_op (P := Tryz.prog) (some 28) rfl rfl (ox_fieldAddr (b := w4.heap.size) (o := 0) tF_37_0 rfl ?_)
        refine xl_op (P := Tryz.prog) (some 29) rfl rfl (ox_load (v := (.int .i64 x_1.left)) tA_3 rfl (b5.cell rfl) ?_)
        refine xl_op (P := Tryz.prog) (some 30) rfl rfl (ox_lss (k := .i64) (a := x_1.left) (b := 0) rfl rfl ?_)
        refine xl_op (P := Tryz.prog) (some 31) rfl rfl (ox_move (v := (.bool (decide ((x_1.left : Int) < 0)))) rfl ?_)
        refine xl_may (P := Tryz.prog) (some 32) (j := 3) (b := false) (((decide ((x_1.left : Int) < 0))) = false) (.bool (decide ((x_1.left : Int) < 0))) (.pointer (some ⟨w4.heap.size, 0, none⟩)) rfl rfl rfl (may_b ((decide ((x_1.left : Int) < 0))) false) (fun hp => ox_fieldAddr (b := w4.heap.size) (o := 0) tF_37_0 rfl ⟨rfl, rfl⟩) ?_
        refine xl_may (P := Tryz.prog) (some 33) (j := 3) (b := false) (((decide ((x_1.left : Int) < 0))) = false) (.bool (decide ((x_1.left : Int) < 0))) (.int .i64 x_1.left) rfl rfl rfl (may_b ((decide ((x_1.left : Int) < 0))) false) (fun hp => ox_load (v := (.int .i64 x_1.left)) tA_3 (if_pos (α := Value) (t := (.pointer (some ⟨w4.heap.size, 0, none⟩))) (e := undef) hp) (b5.cell rfl) ⟨rfl, rfl⟩) ?_
        refine xl_may (P := Tryz.prog) (some 34) (j := 3) (b := false) (((decide ((x_1.left : Int) < 0))) = false) (.bool (decide ((x_1.left : Int) < 0))) (.pointer (some ⟨w.heap.size, 1, none⟩)) rfl rfl rfl (may_b ((decide ((x_1.left : Int) < 0))) false) (fun hp => ox_fieldAddr (b := w.heap.size) (o := 0) tF_26_1 g1_f1 ⟨rfl, rfl⟩) ?_
        have q1 := ((((b1.ext e2).ext x2).ext e4).keep1 e5 ((((b1.ext e2).ext x2).ext e4).ne b4 (by decide)))
        refine xl_may (P := Tryz.prog) (some 35) (j := 3) (b := false) (((decide ((x_1.left : Int) < 0))) = false) (.bool (decide ((x_1.left : Int) < 0))) (.slice s.nA s.names.length s.nc) rfl rfl rfl (may_b ((decide ((x_1.left : Int) < 0))) false) (fun hp => ox_load (v := (.slice s.nA s.names.length s.nc)) tA_23 (if_pos (α := Value) (t := (.pointer (some ⟨w.heap.size, 1, none⟩))) (e := undef) hp) (q1.cell rfl) ⟨rfl, rfl⟩) ?_
        refine xl_may (P := Tryz.prog) (some 36) (j := 3) (b := false) (((decide ((x_1.left : Int) < 0))) = false) (.bool (decide ((x_1.left : Int) < 0))) (.int .i64 (((s.names.length : Nat) : Int))) rfl rfl rfl (may_b ((decide ((x_1.left : Int) < 0))) false) (fun hp => ox_len (A := s.nA) (n := s.names.length) (cp := s.nc) rfl tU_23 (if_pos (α := Value) (t := (.slice s.nA s.names.length s.nc)) (e := undef) hp) ⟨rfl, rfl⟩) ?_
        refine xl_may (P := Tryz.prog) (some 37) (j := 3) (b := false) (((decide ((x_1.left : Int) < 0))) = false) (.bool (decide ((x_1.left : Int) < 0))) (.bool (decide ((((s.names.length : Nat) : Int) : Int) ≤ x_1.left))) rfl rfl rfl (may_b ((decide ((x_1.left : Int) < 0))) false) (fun hp => ox_geq (k := .i64) (a := x_1.left) (b := (((s.names.length : Nat) : Int))) (if_pos (α := Value) (t := (.int .i64 x_1.left)) (e := undef) hp) (if_pos (α := Value) (t := (.int .i64 (((s.names.length : Nat) : Int)))) (e := undef) hp) ⟨rfl, rfl⟩) ?_
        refine xl_op (P := Tryz.prog) (some 38) rfl rfl (ox_pick_or (a := ((decide ((x_1.left : Int) < 0)))) (b := ((decide ((((s.names.length : Nat) : Int) : Int) ≤ x_1.left)))) rfl rfl (fun ha => (if_pos (α := Value) (t := (.bool (decide ((((s.names.length : Nat) : Int) : Int) ≤ x_1.left)))) (e := undef) ha)) ?_)
        refine xl_nil ?_
        refine xc_cond (b := (((decide ((x_1.left : Int) < 0))) || ((decide ((((s.names.length : Nat) : Int) : Int) ≤ x_1.left))))) rfl (fun h3 => ?_) (fun h3 => ?_)
        · skip
          have h3' := h3
          try simp only [Bool.or_eq_true, Bool.and_eq_true, decide_eq_true_eq, Bool.or_eq_false_iff, Bool.and_eq_false_iff, decide_eq_false_iff_not, Bool.not_eq_true', Bool.not_eq_false'] at h3'
          refine xc_seq ?_
          refine xc_region ?_
          refine xl_op (P := Tryz.prog) (some 39) rfl rfl (ox_move (v := (.int .i64 ((i : Nat)))) rfl ?_)
          refine xl_op (P := Tryz.prog) (some 40) rfl rfl (ox_mkStruct (ps := [(0, (.int .i64 70)), (1, (.int .i64 ((i : Nat))))]) (cs := #[(.int .i64 70), (.int .i64 ((i : Nat))), (.string (⟨#[]⟩))]) tZ_75 tP_75 rfl (by kernel_rfl) ?_)
          have q2 := (((b2.ext x2).ext e4).keep1 e5 (((b2.ext x2).ext e4).ne b4 (by decide)))
          refine xl_op (P := Tryz.prog) none rfl rfl (ox_store (n := 3) (vs := [(.int .i64 70), (.int .i64 ((i : Nat))), (.string (⟨#[]⟩))]) tS_75 g2_f1 (v := (.agg #[(.int .i64 70), (.int .i64 ((i : Nat))), (.string (⟨#[]⟩))])) rfl rfl rfl rfl q2 (Nat.le_of_ble_eq_true rfl) ?_)
          intro w7 e6 z6 b6
          replace b6 : Blk w7 w1.heap.size #[(.int .i64 70), (.int .i64 ((i : Nat))), (.string (⟨#[]⟩))] 75 := blk_full b6 rfl
          refine xl_nil ?_
          refine xc_ret ?_
          change leaves _ _ _ _ _ _ _
          refine leaves_nil (n := 59) (rs := [.cell 2 75]) (vs := [(.agg #[(.int .i64 70), (.int .i64 ((i : Nat))), (.string (⟨#[]⟩))])]) rfl ⟨⟨by decide, w1.heap.size, 0, 3, [(.int .i64 70), (.int .i64 ((i : Nat))), (.string (⟨#[]⟩))], g2_f1, tA_75, tS_75, rfl, ⟨b6.cell rfl, b6.cell rfl, b6.cell rfl, trivial⟩, rfl⟩, trivial⟩ ?_
          have x4 : Ext w w7 := (Ext.chg1 (Ext.chg1 (Ext.trans x3 e4) e5 (by omega)) e6 (by omega))
          exact ⟨by rw [indG_go hst, hq, SP.dp hx_2, indP_left (by show x_1.left < 0 ∨ (s.names.length : Int) ≤ x_1.left; omega)]; rfl, x4⟩
        · skip
          have h3' := h3
          try simp only [Bool.or_eq_true, Bool.and_eq_true, decide_eq_true_eq, Bool.or_eq_false_iff, Bool.and_eq_false_iff, decide_eq_false_iff_not, Bool.not_eq_true', Bool.not_eq_false'] at h3'
          have hlf : 0 ≤ x_1.left ∧ x_1.left < (s.names.length : Int) := by omega
          refine xc_skip ?_
          refine xc_seq ?_
          refine xc_region ?_
          refine xl_op (P := Tryz.prog) (some 41) rfl rfl (ox_fieldAddr (b := w4.heap.size) (o := 0) tF_37_1 rfl ?_)
          refine xl_op (P := Tryz.prog) (some 42) rfl rfl (ox_load (v := (.slice x_1.rA x_1.right.length x_1.rc)) tA_33 rfl (b5.cell rfl) ?_)
          refine xl_op (P := Tryz.prog) (some 43) rfl rfl (ox_len (A := x_1.rA) (n := x_1.right.length) (cp := x_1.rc) rfl tU_33 rfl ?_)
          refine xl_op (P := Tryz.prog) (some 44) rfl rfl (ox_move (v := (.int .i64 0)) rfl ?_)
          refine xl_nil ?_
          refine xc_block ?_
          refine xc_loopN (fun m_ f_ Wx => ∃ (k : Nat), m_ = x_1.right.length - k ∧ (k ≤ x_1.right.length) ∧ (rowE s.g x_1.right = rowE s.g (x_1.right.drop k)) ∧ f_ 1 = (.pointer (some ⟨w.heap.size, 0, none⟩)) ∧ f_ 2 = (.pointer (some ⟨w1.heap.size, 0, none⟩)) ∧ f_ 21 = (.slice s.pA s.prods.length s.pc) ∧ f_ 22 = (.int .i64 (((s.prods.length : Nat) : Int))) ∧ f_ 23 = (.int .i64 ((i : Nat))) ∧ f_ 24 = (.bool (decide (((i : Nat) : Int) < (((s.prods.length : Nat) : Int))))) ∧ f_ 25 = (.int .i64 ((i : Nat))) ∧ f_ 26 = (.pointer (some ⟨g_1, o_1 + i * 2, none⟩)) ∧ f_ 27 = (.agg #[(.int .i64 x_1.left), (.slice x_1.rA x_1.right.length x_1.rc)]) ∧ f_ 4 = (.pointer (some ⟨w4.heap.size, 0, none⟩)) ∧ f_ 3 = (.int .i64 ((i : Nat))) ∧ f_ 28 = (.pointer (some ⟨w4.heap.size, 0, none⟩)) ∧ f_ 29 = (.int .i64 x_1.left) ∧ f_ 30 = (.bool (decide ((x_1.left : Int) < 0))) ∧ f_ 31 = (.bool (decide ((x_1.left : Int) < 0))) ∧ f_ 32 = (if ((decide ((x_1.left : Int) < 0))) = false then (.pointer (some ⟨w4.heap.size, 0, none⟩)) else undef) ∧ f_ 33 = (if ((decide ((x_1.left : Int) < 0))) = false then (.int .i64 x_1.left) else undef) ∧ f_ 34 = (if ((decide ((x_1.left : Int) < 0))) = false then (.pointer (some ⟨w.heap.size, 1, none⟩)) else undef) ∧ f_ 35 = (if ((decide ((x_1.left : Int) < 0))) = false then (.slice s.nA s.names.length s.nc) else undef) ∧ f_ 36 = (if ((decide ((x_1.left : Int) < 0))) = false then (.int .i64 (((s.names.length : Nat) : Int))) else undef) ∧ f_ 37 = (if ((decide ((x_1.left : Int) < 0))) = false then (.bool (decide ((((s.names.length : Nat) : Int) : Int) ≤ x_1.left))) else undef) ∧ f_ 38 = (.bool (((decide ((x_1.left : Int) < 0))) || ((decide ((((s.names.length : Nat) : Int) : Int) ≤ x_1.left))))) ∧ f_ 41 = (.pointer (some ⟨w4.heap.size, 1, none⟩)) ∧ f_ 42 = (.slice x_1.rA x_1.right.length x_1.rc) ∧ f_ 43 = (.int .i64 (((x_1.right.length : Nat) : Int))) ∧ f_ 44 = (.int .i64 ((k : Nat))) ∧ Ext w6 Wx) (x_1.right.length) ?_ ?_
          · exact ⟨0, (by omega), (by omega), (by simp), g1_f1, g2_f1, g21_f1, g22_f1, g23_f1, rfl, rfl, rfl, rfl, rfl, rfl, rfl, rfl, rfl, rfl, rfl, rfl, rfl, rfl, rfl, rfl, rfl, rfl, rfl, rfl, (by first | exact rfl | exact (congrArg (Value.int .i64) (by omega))), (Chg.refl _ _)⟩
          · rintro m_ f2 w8 ⟨k, hm_f2, hk, hk2, g1_f2, g2_f2, g21_f2, g22_f2, g23_f2, g24_f2, g25_f2, g26_f2, g27_f2, g4_f2, g3_f2, g28_f2, g29_f2, g30_f2, g31_f2, g32_f2, g33_f2, g34_f2, g35_f2, g36_f2, g37_f2, g38_f2, g41_f2, g42_f2, g43_f2, g44_f2, x5⟩
            have hx5 := x5.size
            refine xc_seq ?_
            refine xc_region ?_
            refine xl_op (P := Tryz.prog) (some 45) rfl rfl (ox_lss (k := .i64) (a := ((k : Nat))) (b := (((x_1.right.length : Nat) : Int))) g44_f2 g43_f2 ?_)
            refine xl_nil ?_
            refine xc_seq ?_
            refine xc_if (p := ((k : Nat) : Int) < (((x_1.right.length : Nat) : Int))) rfl (fun h4 => ?_) (fun h4 => ?_)
            · skip
              refine xc_skip ?_
              refine xc_seq ?_
              refine xc_block ?_
              refine xc_seq ?_
              refine xc_region ?_
              have x6 : Ext w w8 := (Ext.trans (Ext.chg1 (Ext.trans x3 e4) e5 (by omega)) x5)
              obtain ⟨x_2, g_2, o_2, hx_3⟩ := row_may (A := x_1.rA) (cs := Sym.cs) k Sym.len (by decide) (RowA.ext ((hS.right _ (List.mem_of_getElem? hx_2))) x6)
              obtain ⟨hx_4, hA_2, hc_2⟩ := hx_3 (by first | omega | (simp only [List.length_drop, List.length_replicate, List.length_set, List.length_append, List.length_map, List.length_singleton] at *; omega))
              refine xl_op (P := Tryz.prog) (some 46) rfl rfl (ox_ixA (b := g_2) (o := o_2) (i := ((k : Nat))) k tE_33 hA_2 g42_f2 g44_f2 rfl (by omega) ?_)
              refine xl_op (P := Tryz.prog) (some 47) rfl rfl (ox_loadN (vs := [(.int .i64 x_2.kind), (.int .i64 x_2.n)]) tA_32 tS_32 rfl rfl hc_2 ?_)
              refine xl_op (P := Tryz.prog) (some 6) rfl rfl (ox_alloc tZ_32 ?_)
              intro w9 e7 z7 b7
              replace b7 : Blk w9 w8.heap.size #[(.int .i64 0), (.int .i64 0)] 32 := b7
              refine xl_op (P := Tryz.prog) none rfl rfl (ox_store (n := 2) (vs := [(.int .i64 x_2.kind), (.int .i64 x_2.n)]) tS_32 rfl (v := (.agg #[(.int .i64 x_2.kind), (.int .i64 x_2.n)])) rfl rfl rfl rfl b7 (Nat.le_of_ble_eq_true rfl) ?_)
              intro w10 e8 z8 b8
              replace b8 : Blk w10 w8.heap.size #[(.int .i64 x_2.kind), (.int .i64 x_2.n)] 32 := blk_full b8 rfl
              refine xl_nil ?_
              refine xc_seq ?_
              refine xc_region ?_
              have q3 := ((((b1.ext e2).ext x2).ext e4).keep1 e5 ((((b1.ext e2).ext x2).ext e4).ne b4 (by decide)))
              have q4 := (((q3.ext x5).ext e7).keep1 e8 (((q3.ext x5).ext e7).ne b7 (by decide)))
              refine xl_op (P := Tryz.prog) (some 48) rfl rfl (ox_loadN (vs := [(.slice s.lA s.lex.length s.lc), (.slice s.nA s.names.length s.nc), (.int .i64 s.start), (.slice s.pA s.prods.length s.pc)]) tA_26 tS_26 g1_f2 rfl ⟨q4.cell rfl, q4.cell rfl, q4.cell rfl, q4.cell rfl, trivial⟩ ?_)
              refine xl_op (P := Tryz.prog) (some 49) rfl rfl (ox_loadN (vs := [(.int .i64 x_2.kind), (.int .i64 x_2.n)]) tA_32 tS_32 rfl rfl ⟨b8.cell rfl, b8.cell rfl, trivial⟩ ?_)
              have x7 : Ext w w10 := (Ext.chg1 (Ext.trans x6 e7) e8 (by omega))
              refine xl_op (P := Tryz.prog) (some 50) rfl rfl (ox_callE (al := [(.agg #[(.slice s.lA s.lex.length s.lc), (.slice s.nA s.names.length s.nc), (.int .i64 s.start), (.slice s.pA s.prods.length s.pc)]), (.agg #[(.int .i64 x_2.kind), (.int .i64 x_2.n)])]) pf_117 rfl (ret_mono (symbol_calls s x_2 w10 (hS.ext x7)) ?_))
              rintro _ w11 ⟨rfl, e9⟩
              have he9 := e9.size
              refine xl_op (P := Tryz.prog) (some 7) rfl rfl (ox_assign (v := (.int .i64 (symE s.g x_2))) rfl ?_)
              refine xl_nil ?_
              refine xc_seq ?_
              refine xc_region ?_
              refine xl_op (P := Tryz.prog) (some 51) rfl rfl (ox_move (v := (.int .i64 (symE s.g x_2))) rfl ?_)
              refine xl_op (P := Tryz.prog) (some 52) rfl rfl (ox_neq (k := .i64) (a := (symE s.g x_2)) (b := 0) rfl rfl ?_)
              refine xl_nil ?_
              refine xc_if (p := (symE s.g x_2 : Int) ≠ 0) rfl (fun h5 => ?_) (fun h5 => ?_)
              · skip
                refine xc_seq ?_
                refine xc_region ?_
                refine xl_op (P := Tryz.prog) (some 53) rfl rfl (ox_move (v := (.int .i64 (symE s.g x_2))) rfl ?_)
                refine xl_op (P := Tryz.prog) (some 54) rfl rfl (ox_move (v := (.int .i64 ((i : Nat)))) g3_f2 ?_)
                refine xl_op (P := Tryz.prog) (some 55) rfl rfl (ox_mkStruct (ps := [(0, (.int .i64 (symE s.g x_2))), (1, (.int .i64 ((i : Nat))))]) (cs := #[(.int .i64 (symE s.g x_2)), (.int .i64 ((i : Nat))), (.string (⟨#[]⟩))]) tZ_75 tP_75 rfl (by kernel_rfl) ?_)
                have q5 := (((b2.ext x2).ext e4).keep1 e5 (((b2.ext x2).ext e4).ne b4 (by decide)))
                have q6 := (((q5.ext x5).ext e7).keep1 e8 (((q5.ext x5).ext e7).ne b7 (by decide)))
                refine xl_op (P := Tryz.prog) none rfl rfl (ox_store (n := 3) (vs := [(.int .i64 (symE s.g x_2)), (.int .i64 ((i : Nat))), (.string (⟨#[]⟩))]) tS_75 g2_f2 (v := (.agg #[(.int .i64 (symE s.g x_2)), (.int .i64 ((i : Nat))), (.string (⟨#[]⟩))])) rfl rfl rfl rfl (q6.ext e9) (Nat.le_of_ble_eq_true rfl) ?_)
                intro w12 e10 z9 b9
                replace b9 : Blk w12 w1.heap.size #[(.int .i64 (symE s.g x_2)), (.int .i64 ((i : Nat))), (.string (⟨#[]⟩))] 75 := blk_full b9 rfl
                refine xl_nil ?_
                refine xc_ret ?_
                change leaves _ _ _ _ _ _ _
                refine leaves_nil (n := 59) (rs := [.cell 2 75]) (vs := [(.agg #[(.int .i64 (symE s.g x_2)), (.int .i64 ((i : Nat))), (.string (⟨#[]⟩))])]) rfl ⟨⟨by decide, w1.heap.size, 0, 3, [(.int .i64 (symE s.g x_2)), (.int .i64 ((i : Nat))), (.string (⟨#[]⟩))], g2_f2, tA_75, tS_75, rfl, ⟨b9.cell rfl, b9.cell rfl, b9.cell rfl, trivial⟩, rfl⟩, trivial⟩ ?_
                have x8 : Ext w w12 := (Ext.chg1 (Ext.trans x7 e9) e10 (by omega))
                exact ⟨by rw [indG_go hst, hq, SP.dp hx_2, indP_sym (show 0 ≤ x_1.left ∧ x_1.left < (s.names.length : Int) from hlf) (hk2.trans (rowE_hit hx_4 h5)) h5]; rfl, x8⟩
              · skip
                refine xc_skip ?_
                refine xc_region ?_
                refine xl_op (P := Tryz.prog) (some 56) rfl rfl (ox_add64 (a := ((k : Nat))) (b := 1) g44_f2 rfl (by omega) ?_)
                refine xl_op (P := Tryz.prog) (some 44) rfl rfl (ox_move (v := (.int .i64 ((k : Nat) + 1))) rfl ?_)
                refine xl_nil ?_
                have x9 : Ext w6 w11 := (Ext.trans (Ext.chg1 (Ext.trans x5 e7) e8 (by omega)) e9)
                exact ⟨rfl, x_1.right.length - (k + 1), by omega, k + 1, by omega, (by omega), (hk2.trans (rowE_next hx_4 (by simpa using h5))), g1_f2, g2_f2, g21_f2, g22_f2, g23_f2, g24_f2, g25_f2, g26_f2, g27_f2, g4_f2, g3_f2, g28_f2, g29_f2, g30_f2, g31_f2, g32_f2, g33_f2, g34_f2, g35_f2, g36_f2, g37_f2, g38_f2, g41_f2, g42_f2, g43_f2, (by first | exact rfl | exact (congrArg (Value.int .i64) (by omega))), x9⟩
            · skip
              refine xc_exit ?_
              refine xc_region ?_
              refine xl_op (P := Tryz.prog) (some 57) rfl rfl (ox_add64 (a := ((i : Nat))) (b := 1) g23_f2 rfl (by omega) ?_)
              refine xl_op (P := Tryz.prog) (some 23) rfl rfl (ox_move (v := (.int .i64 ((i : Nat) + 1))) rfl ?_)
              refine xl_nil ?_
              have x10 : Ext w2 w8 := (Ext.trans (Ext.chg1 (Ext.trans x2 e4) e5 (by omega)) x5)
              exact ⟨rfl, s.prods.length - (i + 1), by omega, i + 1, by omega, (by omega), (by rw [hq]; exact (congrArg (fun z => indP s.g z i) (SP.dp hx_2)).trans (indP_next (show 0 ≤ x_1.left ∧ x_1.left < (s.names.length : Int) from hlf) (hk2.trans (by rw [List.drop_of_length_le (by omega)]; rfl)))), g1_f2, g2_f2, g21_f2, g22_f2, (by first | exact rfl | exact (congrArg (Value.int .i64) (by omega))), x10⟩
      · skip
        refine xc_exit ?_
        refine xc_seq ?_
        refine xc_region ?_
        refine xl_op (P := Tryz.prog) (some 58) rfl rfl (ox_mkStruct (ps := []) (cs := #[(.int .i64 0), (.int .i64 0), (.string (⟨#[]⟩))]) tZ_75 tP_75 rfl (by kernel_rfl) ?_)
        refine xl_op (P := Tryz.prog) none rfl rfl (ox_store (n := 3) (vs := [(.int .i64 0), (.int .i64 0), (.string (⟨#[]⟩))]) tS_75 g2_f1 (v := (.agg #[(.int .i64 0), (.int .i64 0), (.string (⟨#[]⟩))])) rfl rfl rfl rfl (b2.ext x2) (Nat.le_of_ble_eq_true rfl) ?_)
        intro w13 e11 z10 b10
        replace b10 : Blk w13 w1.heap.size #[(.int .i64 0), (.int .i64 0), (.string (⟨#[]⟩))] 75 := blk_full b10 rfl
        refine xl_nil ?_
        refine xc_ret ?_
        change leaves _ _ _ _ _ _ _
        refine leaves_nil (n := 59) (rs := [.cell 2 75]) (vs := [(.agg #[(.int .i64 0), (.int .i64 0), (.string (⟨#[]⟩))])]) rfl ⟨⟨by decide, w1.heap.size, 0, 3, [(.int .i64 0), (.int .i64 0), (.string (⟨#[]⟩))], g2_f1, tA_75, tS_75, rfl, ⟨b10.cell rfl, b10.cell rfl, b10.cell rfl, trivial⟩, rfl⟩, trivial⟩ ?_
        have x11 : Ext w w13 := (Ext.chg1 (Ext.trans (Ext.trans e1 e2) x2) e11 (by omega))
        exact ⟨by rw [indG_go hst, hq, List.drop_of_length_le (by rw [s.gprods]; omega)]; rfl, x11⟩
end Go.Proofs.YtnnmdkglgnlenaaGreatDoor
set_option linter.unusedVariables false
set_option linter.unusedSimpArgs false
set_option maxRecDepth 100000
set_option maxHeartbeats 4000000
namespace Go.Proofs.YtnnmdkglgnlenaaGreatDoor
open Go Go.RowKit Go.Vx
theorem fixedB (n c : Nat) (A : Option Addr) (h0 : List Bool) (f : List Bool → List Bool × Bool) (μ : List Bool → Nat) (Inv : List Bool → Prop) (G : Nat) (CB : List Value) (w : World) (hO : Vx.Own w 4 1 (.slice A n c) n (h0.flatMap bools)) (hp : plainF Tryz.prog G = true) (hI0 : Inv h0) (hm : ∀ h, Inv h → (f h).2 = true → Inv (f h).1 ∧ μ (f h).1 < μ h) (hf : ∀ (h : List Bool) (W : World), Inv h → Vx.Own W 4 1 (.slice A n c) n (h.flatMap bools) → Chg (fun b => (Value.slice A n c).ownBlock = some b) w W → Calls Tryz.prog G ([Value.slice A n c] ++ CB).toArray W (Ret fun v W' => v = .tuple #[.slice A n c, .bool (f h).2] ∧ Vx.Own W' 4 1 (.slice A n c) n (((f h).1).flatMap bools) ∧ Chg (fun b => (Value.slice A n c).ownBlock = some b) W W')) :
    Calls Tryz.prog 120 #[(.slice A n c), (.func (.func G) #[] CB.toArray)] w (Ret (fun v w' => v = .slice A n c ∧ Vx.Own w' 4 1 (.slice A n c) n ((fixN f (μ h0 + 1) h0).flatMap bools) ∧ Chg (fun b => (Value.slice A n c).ownBlock = some b) w w')) := by
  refine calls_xc (n := 17) (f := fun s_ => [(.slice A n c), (.func (.func G) #[] CB.toArray)].getD s_ undef) Tryz.func120 rfl rfl (by simp) (fun s_ => by simp) ?_
  refine xc_seq ?_
  refine xc_region ?_
  refine xl_op (P := Tryz.prog) (some 4) rfl rfl (ox_assign (v := (.slice none 0 0)) rfl ?_)
  refine xl_nil ?_
  refine xc_block ?_
  refine xc_loopN (fun m_ f_ Wx => ∃ (h : List Bool), m_ = μ h ∧ (Inv h) ∧ (fixN f (μ h0 + 1) h0 = fixN f (μ h + 1) h) ∧ f_ 1 = (.func (.func G) #[] CB.toArray) ∧ f_ 0 = (.slice A n c) ∧ Vx.Own Wx 4 1 (.slice A n c) n (h.flatMap bools) ∧ Chg (fun b => ((.slice A n c) : Value).ownBlock = some b) w Wx) (μ h0) ?_ ?_
  · exact ⟨h0, (by omega), hI0, rfl, rfl, rfl, hO, (Chg.refl _ _)⟩
  · rintro m_ f1 w1 ⟨h, hm_f1, hI, hq, g1_f1, g0_f1, o0_f1, x1⟩
    have hx1 := x1.size
    have hl_h : h.length = n := by have _q := (o0_f1).len; rw [fm_len bools_len] at _q; omega
    refine xc_block ?_
    refine xc_seq ?_
    refine xc_region ?_
    refine xl_op (P := Tryz.prog) (some 8) rfl rfl (ox_move (v := (.func (.func G) #[] CB.toArray)) g1_f1 ?_)
    refine xl_op (P := Tryz.prog) (some 9) rfl rfl (ox_move (v := (.slice A n c)) g0_f1 ?_)
    have y1 : Chg (fun b => ((.slice A n c) : Value).ownBlock = some b) w w1 := (Chg.trans (Chg.refl (fun b => ((.slice A n c) : Value).ownBlock = some b) w) x1 (fun b hb hl => hb))
    refine xl_op (P := Tryz.prog) (some 10) rfl rfl (ox_callV (cap := CB) (al := [(.slice A n c)]) hp rfl rfl (ret_mono (hf h w1 hI o0_f1 y1) ?_))
    rintro _ w2 ⟨rfl, o1, e1⟩
    have he1 := e1.size
    refine xl_op (P := Tryz.prog) (some 7) rfl rfl (ox_move (v := (.tuple #[(.slice A n c), (.bool ((f h).2))])) rfl ?_)
    refine xl_op (P := Tryz.prog) (some 11) rfl rfl (ox_extract (vs := #[(.slice A n c), (.bool ((f h).2))]) (v := (.slice A n c)) rfl rfl ?_)
    refine xl_op (P := Tryz.prog) (some 12) rfl rfl (ox_extract (vs := #[(.slice A n c), (.bool ((f h).2))]) (v := (.bool ((f h).2))) rfl rfl ?_)
    refine xl_op (P := Tryz.prog) (some 5) rfl rfl (ox_assign (v := (.slice A n c)) rfl ?_)
    refine xl_op (P := Tryz.prog) (some 6) rfl rfl (ox_assign (v := (.bool ((f h).2))) rfl ?_)
    refine xl_nil ?_
    refine xc_seq ?_
    refine xc_seq ?_
    refine xc_region ?_
    refine xl_op (P := Tryz.prog) (some 13) rfl rfl (ox_move (v := (.bool ((f h).2))) rfl ?_)
    refine xl_op (P := Tryz.prog) (some 14) rfl rfl (ox_not (b := (((f h).2))) rfl ?_)
    refine xl_nil ?_
    refine xc_cond (b := (!((f h).2))) rfl (fun h1 => ?_) (fun h1 => ?_)
    · skip
      have h1' := h1
      try simp only [Bool.or_eq_true, Bool.and_eq_true, decide_eq_true_eq, Bool.or_eq_false_iff, Bool.and_eq_false_iff, decide_eq_false_iff_not, Bool.not_eq_true', Bool.not_eq_false'] at h1'
      refine xc_seq ?_
      refine xc_region ?_
      refine xl_op (P := Tryz.prog) (some 15) rfl rfl (ox_move (v := (.slice A n c)) rfl ?_)
      refine xl_op (P := Tryz.prog) (some 4) rfl rfl (ox_assign (v := (.slice A n c)) rfl ?_)
      refine xl_nil ?_
      refine xc_ret ?_
      change leaves _ _ _ _ _ _ _
      refine leaves_nil (n := 17) (rs := [.tmp 4]) (vs := [(.slice A n c)]) rfl ⟨⟨by decide, rfl⟩, trivial⟩ ?_
      have y2 : Chg (fun b => ((.slice A n c) : Value).ownBlock = some b) w w2 := (Chg.trans (Chg.trans (Chg.refl (fun b => ((.slice A n c) : Value).ownBlock = some b) w) x1 (fun b hb hl => hb)) e1 (fun b hb hl => hb))
      exact ⟨rfl, by rw [hq, fixN_done h1']; exact o1, y2⟩
    · skip
      have h1' := h1
      try simp only [Bool.or_eq_true, Bool.and_eq_true, decide_eq_true_eq, Bool.or_eq_false_iff, Bool.and_eq_false_iff, decide_eq_false_iff_not, Bool.not_eq_true', Bool.not_eq_false'] at h1'
      refine xc_skip ?_
      refine xc_region ?_
      refine xl_op (P := Tryz.prog) (some 16) rfl rfl (ox_move (v := (.slice A n c)) rfl ?_)
      refine xl_op (P := Tryz.prog) (some 0) rfl rfl (ox_assign (v := (.slice A n c)) rfl ?_)
      refine xl_nil ?_
      have y3 : Chg (fun b => ((.slice A n c) : Value).ownBlock = some b) w w2 := (Chg.trans (Chg.trans (Chg.refl (fun b => ((.slice A n c) : Value).ownBlock = some b) w) x1 (fun b hb hl => hb)) e1 (fun b hb hl => hb))
      exact ⟨rfl, μ (f h).1, by (rw [hm_f1]; exact (hm h hI h1').2), (f h).1, by rfl, (hm h hI h1').1, (hq.trans (fixN_step hm hI h1')), g1_f1, rfl, o1, y3⟩
theorem fixedI (n c : Nat) (A : Option Addr) (h0 : List Int) (f : List Int → List Int × Bool) (μ : List Int → Nat) (Inv : List Int → Prop) (G : Nat) (CB : List Value) (w : World) (hO : Vx.Own w 3 1 (.slice A n c) n (h0.flatMap ints)) (hp : plainF Tryz.prog G = true) (hI0 : Inv h0) (hm : ∀ h, Inv h → (f h).2 = true → Inv (f h).1 ∧ μ (f h).1 < μ h) (hf : ∀ (h : List Int) (W : World), Inv h → Vx.Own W 3 1 (.slice A n c) n (h.flatMap ints) → Chg (fun b => (Value.slice A n c).ownBlock = some b) w W → Calls Tryz.prog G ([Value.slice A n c] ++ CB).toArray W (Ret fun v W' => v = .tuple #[.slice A n c, .bool (f h).2] ∧ Vx.Own W' 3 1 (.slice A n c) n (((f h).1).flatMap ints) ∧ Chg (fun b => (Value.slice A n c).ownBlock = some b) W W')) :
    Calls Tryz.prog 124 #[(.slice A n c), (.func (.func G) #[] CB.toArray)] w (Ret (fun v w' => v = .slice A n c ∧ Vx.Own w' 3 1 (.slice A n c) n ((fixN f (μ h0 + 1) h0).flatMap ints) ∧ Chg (fun b => (Value.slice A n c).ownBlock = some b) w w')) := by
  refine calls_xc (n := 17) (f := fun s_ => [(.slice A n c), (.func (.func G) #[] CB.toArray)].getD s_ undef) Tryz.func124 rfl rfl (by simp) (fun s_ => by simp) ?_
  refine xc_seq ?_
  refine xc_region ?_
  refine xl_op (P := Tryz.prog) (some 4) rfl rfl (ox_assign (v := (.slice none 0 0)) rfl ?_)
  refine xl_nil ?_
  refine xc_block ?_
  refine xc_loopN (fun m_ f_ Wx => ∃ (h : List Int), m_ = μ h ∧ (Inv h) ∧ (fixN f (μ h0 + 1) h0 = fixN f (μ h + 1) h) ∧ f_ 1 = (.func (.func G) #[] CB.toArray) ∧ f_ 0 = (.slice A n c) ∧ Vx.Own Wx 3 1 (.slice A n c) n (h.flatMap ints) ∧ Chg (fun b => ((.slice A n c) : Value).ownBlock = some b) w Wx) (μ h0) ?_ ?_
  · exact ⟨h0, (by omega), hI0, rfl, rfl, rfl, hO, (Chg.refl _ _)⟩
  · rintro m_ f1 w1 ⟨h, hm_f1, hI, hq, g1_f1, g0_f1, o0_f1, x1⟩
    have hx1 := x1.size
    have hl_h : h.length = n := by have _q := (o0_f1).len; rw [fm_len ints_len] at _q; omega
    refine xc_block ?_
    refine xc_seq ?_
    refine xc_region ?_
    refine xl_op (P := Tryz.prog) (some 8) rfl rfl (ox_move (v := (.func (.func G) #[] CB.toArray)) g1_f1 ?_)
    refine xl_op (P := Tryz.prog) (some 9) rfl rfl (ox_move (v := (.slice A n c)) g0_f1 ?_)
    have y1 : Chg (fun b => ((.slice A n c) : Value).ownBlock = some b) w w1 := (Chg.trans (Chg.refl (fun b => ((.slice A n c) : Value).ownBlock = some b) w) x1 (fun b hb hl => hb))
    refine xl_op (P := Tryz.prog) (some 10) rfl rfl (ox_callV (cap := CB) (al := [(.slice A n c)]) hp rfl rfl (ret_mono (hf h w1 hI o0_f1 y1) ?_))
    rintro _ w2 ⟨rfl, o1, e1⟩
    have he1 := e1.size
    refine xl_op (P := Tryz.prog) (some 7) rfl rfl (ox_move (v := (.tuple #[(.slice A n c), (.bool ((f h).2))])) rfl ?_)
    refine xl_op (P := Tryz.prog) (some 11) rfl rfl (ox_extract (vs := #[(.slice A n c), (.bool ((f h).2))]) (v := (.slice A n c)) rfl rfl ?_)
    refine xl_op (P := Tryz.prog) (some 12) rfl rfl (ox_extract (vs := #[(.slice A n c), (.bool ((f h).2))]) (v := (.bool ((f h).2))) rfl rfl ?_)
    refine xl_op (P := Tryz.prog) (some 5) rfl rfl (ox_assign (v := (.slice A n c)) rfl ?_)
    refine xl_op (P := Tryz.prog) (some 6) rfl rfl (ox_assign (v := (.bool ((f h).2))) rfl ?_)
    refine xl_nil ?_
    refine xc_seq ?_
    refine xc_seq ?_
    refine xc_region ?_
    refine xl_op (P := Tryz.prog) (some 13) rfl rfl (ox_move (v := (.bool ((f h).2))) rfl ?_)
    refine xl_op (P := Tryz.prog) (some 14) rfl rfl (ox_not (b := (((f h).2))) rfl ?_)
    refine xl_nil ?_
    refine xc_cond (b := (!((f h).2))) rfl (fun h1 => ?_) (fun h1 => ?_)
    · skip
      have h1' := h1
      try simp only [Bool.or_eq_true, Bool.and_eq_true, decide_eq_true_eq, Bool.or_eq_false_iff, Bool.and_eq_false_iff, decide_eq_false_iff_not, Bool.not_eq_true', Bool.not_eq_false'] at h1'
      refine xc_seq ?_
      refine xc_region ?_
      refine xl_op (P := Tryz.prog) (some 15) rfl rfl (ox_move (v := (.slice A n c)) rfl ?_)
      refine xl_op (P := Tryz.prog) (some 4) rfl rfl (ox_assign (v := (.slice A n c)) rfl ?_)
      refine xl_nil ?_
      refine xc_ret ?_
      change leaves _ _ _ _ _ _ _
      refine leaves_nil (n := 17) (rs := [.tmp 4]) (vs := [(.slice A n c)]) rfl ⟨⟨by decide, rfl⟩, trivial⟩ ?_
      have y2 : Chg (fun b => ((.slice A n c) : Value).ownBlock = some b) w w2 := (Chg.trans (Chg.trans (Chg.refl (fun b => ((.slice A n c) : Value).ownBlock = some b) w) x1 (fun b hb hl => hb)) e1 (fun b hb hl => hb))
      exact ⟨rfl, by rw [hq, fixN_done h1']; exact o1, y2⟩
    · skip
      have h1' := h1
      try simp only [Bool.or_eq_true, Bool.and_eq_true, decide_eq_true_eq, Bool.or_eq_false_iff, Bool.and_eq_false_iff, decide_eq_false_iff_not, Bool.not_eq_true', Bool.not_eq_false'] at h1'
      refine xc_skip ?_
      refine xc_region ?_
      refine xl_op (P := Tryz.prog) (some 16) rfl rfl (ox_move (v := (.slice A n c)) rfl ?_)
      refine xl_op (P := Tryz.prog) (some 0) rfl rfl (ox_assign (v := (.slice A n c)) rfl ?_)
      refine xl_nil ?_
      have y3 : Chg (fun b => ((.slice A n c) : Value).ownBlock = some b) w w2 := (Chg.trans (Chg.trans (Chg.refl (fun b => ((.slice A n c) : Value).ownBlock = some b) w) x1 (fun b hb hl => hb)) e1 (fun b hb hl => hb))
      exact ⟨rfl, μ (f h).1, by (rw [hm_f1]; exact (hm h hI h1').2), (f h).1, by rfl, (hm h hI h1').1, (hq.trans (fixN_step hm hI h1')), g1_f1, rfl, o1, y3⟩
end Go.Proofs.YtnnmdkglgnlenaaGreatDoor
set_option linter.unusedVariables false
set_option linter.unusedSimpArgs false
set_option maxRecDepth 100000
set_option maxHeartbeats 4000000
namespace Go.Proofs.YtnnmdkglgnlenaaGreatDoor
open Go Go.RowKit Go.Vx
def okS (good : Sym → Bool) (h : List Bool) (x : Sym) : Bool := if x.kind = 3 then h[x.n.toNat]! else good x
def stepB (good : Sym → Bool) : List P2 → List Bool → Bool → List Bool × Bool
  | [], h, g => (h, g)
  | p :: r, h, g => if h[p.1.toNat]! = false ∧ p.2.any (fun x => !okS good h x) = false then stepB good r (h.set p.1.toNat true) true else stepB good r h g
theorem stepB_yes {good : Sym → Bool} {p : P2} {r : List P2} {h : List Bool} {g : Bool} (h1 : h[p.1.toNat]! = false) (h2 : p.2.any (fun x => !okS good h x) = false) : stepB good (p :: r) h g = stepB good r (h.set p.1.toNat true) true := by rw [stepB, if_pos ⟨h1, h2⟩]
theorem stepB_no1 {good : Sym → Bool} {p : P2} {r : List P2} {h : List Bool} {g : Bool} (h1 : h[p.1.toNat]! ≠ false) : stepB good (p :: r) h g = stepB good r h g := by rw [stepB, if_neg (fun q => h1 q.1)]
theorem stepB_no2 {good : Sym → Bool} {p : P2} {r : List P2} {h : List Bool} {g : Bool} (h2 : p.2.any (fun x => !okS good h x) ≠ false) : stepB good (p :: r) h g = stepB good r h g := by rw [stepB, if_neg (fun q => h2 q.2)]
def GoodG (g : GD) : Prop := (0 ≤ g.start ∧ g.start < (g.names : Int)) ∧ ∀ p ∈ g.prods, 0 ≤ p.1 ∧ p.1 < (g.names : Int) ∧ ∀ x ∈ p.2, symE g x = 0
theorem symE_name {g : GD} {x : Sym} (h : symE g x = 0) (hk : x.kind = 3) : 0 ≤ x.n ∧ x.n < (g.names : Int) := by
  unfold symE at h
  rw [if_neg (by omega), if_neg (by omega), if_pos hk] at h
  split at h
  · assumption
  · omega
theorem symE_term {g : GD} {x : Sym} (h : symE g x = 0) (hk : x.kind = 1) : (0 ≤ x.n ∧ x.n < (g.triv.length : Int)) ∧ g.triv[x.n.toNat]! = false := by
  unfold symE at h
  rw [if_pos hk] at h
  split at h
  · rename_i h1
    split at h
    · omega
    · rename_i h2; exact ⟨h1, by simpa using h2⟩
  · omega
theorem rowE_zero {g : GD} : ∀ {l : List Sym}, rowE g l = 0 → ∀ x ∈ l, symE g x = 0
  | [], _, _, hx => by cases hx
  | y :: r, h, x, hx => by
    simp only [rowE] at h
    split at h
    · rename_i h0
      rcases List.mem_cons.1 hx with rfl | hx
      · exact h0
      · exact rowE_zero h x hx
    · rename_i h0; exact absurd h h0
theorem indP_zero {g : GD} : ∀ {l : List P2} {i : Nat}, (indP g l i).1 = 0 → ∀ p ∈ l, 0 ≤ p.1 ∧ p.1 < (g.names : Int) ∧ ∀ x ∈ p.2, symE g x = 0
  | [], _, _, _, hx => by cases hx
  | y :: r, i, h, x, hx => by
    simp only [indP] at h
    split at h
    · simp at h
    · rename_i h1
      split at h
      · rename_i h2
        rcases List.mem_cons.1 hx with rfl | hx
        · exact ⟨by omega, by omega, rowE_zero h2⟩
        · exact indP_zero h x hx
      · rename_i h2; exact absurd h h2
theorem good_of {g : GD} (h : (indG g).1 = 0) : GoodG g := by
  unfold indG at h
  split at h
  · simp at h
  · exact ⟨by omega, indP_zero h⟩
theorem pf_122 : plainF Tryz.prog 122 = true := by kernel_rfl
theorem pf_123 : plainF Tryz.prog 123 = true := by kernel_rfl
theorem tA_144 : isAggT Tryz.prog 144 = some false := by kernel_rfl
theorem tA_146 : isAggT Tryz.prog 146 = some false := by kernel_rfl
theorem tS_4 : sizeT Tryz.prog 4 = some 1 := by kernel_rfl
theorem made11_calls (x : Sym) (bh bg n c : Nat) (A : Option Addr) (h : List Bool) (good : Sym → Bool) (G : Nat) (CB : List Value) (w : World) (hbh : Blk w bh #[.slice A n c] 144) (hbg : Blk w bg #[.func (.func G) #[] CB.toArray] 146) (hA : RowA w A (h.flatMap bools)) (hl : h.length = n) (hx : x.kind = 3 → 0 ≤ x.n ∧ x.n < (n : Int)) (hp : plainF Tryz.prog G = true) (hg : ∀ x W, Calls Tryz.prog G ([Value.agg (Sym.cs x).toArray] ++ CB).toArray W (Ret fun v W' => v = .bool (good x) ∧ Ext W W')) :
    Calls Tryz.prog 122 #[(.agg #[(.int .i64 x.kind), (.int .i64 x.n)]), (.pointer (some ⟨bh, 0, none⟩)), (.pointer (some ⟨bg, 0, none⟩))] w (Ret (fun v w' => v = .bool (!okS good h x) ∧ Ext w w')) := by
  refine calls_xc (n := 27) (f := fun s_ => [(.agg #[(.int .i64 x.kind), (.int .i64 x.n)]), (.pointer (some ⟨bh, 0, none⟩)), (.pointer (some ⟨bg, 0, none⟩))].getD s_ undef) Tryz.func122 rfl rfl (by simp) (fun s_ => by simp) ?_
  refine xc_seq ?_
  refine xc_region ?_
  refine xl_op (P := Tryz.prog) (some 3) rfl rfl (ox_box (v := (.agg #[(.int .i64 x.kind), (.int .i64 x.n)])) rfl ?_)
  intro w1 e1 z1 b1
  replace b1 : Blk w1 w.heap.size #[(.int .i64 x.kind), (.int .i64 x.n)] 32 := b1
  refine xl_op (P := Tryz.prog) (some 4) rfl rfl (ox_assign (v := (.bool false)) rfl ?_)
  refine xl_nil ?_
  refine xc_seq ?_
  refine xc_region ?_
  refine xl_op (P := Tryz.prog) (some 5) rfl rfl (ox_fieldAddr (b := w.heap.size) (o := 0) tF_32_0 rfl ?_)
  refine xl_op (P := Tryz.prog) (some 6) rfl rfl (ox_load (v := (.int .i64 x.kind)) tA_3 rfl (b1.cell rfl) ?_)
  refine xl_op (P := Tryz.prog) (some 7) rfl rfl (ox_eql (k := .i64) (a := x.kind) (b := 3) rfl rfl ?_)
  refine xl_op (P := Tryz.prog) (some 8) rfl rfl (ox_move (v := (.bool (decide ((x.kind : Int) = 3)))) rfl ?_)
  by_cases h1 : (x.kind : Int) = 3
  · skip
    have hxr := hx (by omega)
    refine xl_opg (P := Tryz.prog) (some 9) (j := 3) (b := true) rfl rfl (congrArg some (decide_eq_true h1)) (ox_load (v := (.slice A n c)) tA_144 rfl ((hbh.ext e1).cell rfl) ?_)
    refine xl_opg (P := Tryz.prog) (some 10) (j := 3) (b := true) rfl rfl (congrArg some (decide_eq_true h1)) (ox_fieldAddr (b := w.heap.size) (o := 0) tF_32_1 rfl ?_)
    refine xl_opg (P := Tryz.prog) (some 11) (j := 3) (b := true) rfl rfl (congrArg some (decide_eq_true h1)) (ox_load (v := (.int .i64 x.n)) tA_3 rfl (b1.cell rfl) ?_)
    obtain ⟨x_1, g_1, o_1, hx_1⟩ := row_may (A := A) (cs := bools) x.n.toNat bools_len (by decide) (RowA.ext hA e1)
    obtain ⟨hx_2, hA_1, hc_1⟩ := hx_1 (by first | omega | (simp only [List.length_drop, List.length_replicate, List.length_set, List.length_append, List.length_map, List.length_singleton] at *; omega))
    refine xl_opg (P := Tryz.prog) (some 12) (j := 3) (b := true) rfl rfl (congrArg some (decide_eq_true h1)) (ox_ixA (b := g_1) (o := o_1) (i := x.n) x.n.toNat tE_144 hA_1 rfl rfl (by omega) (by omega) ?_)
    refine xl_opg (P := Tryz.prog) (some 13) (j := 3) (b := true) rfl rfl (congrArg some (decide_eq_true h1)) (ox_load (v := (.bool x_1)) tA_4 rfl (CellsL.at1 hc_1 0 rfl) ?_)
    refine xl_opg (P := Tryz.prog) (some 14) (j := 3) (b := true) rfl rfl (congrArg some (decide_eq_true h1)) (ox_not (b := x_1) rfl ?_)
    refine xl_op (P := Tryz.prog) (some 15) rfl rfl (ox_pick_t (v := (.bool (!x_1))) (congrArg Value.bool (decide_eq_true h1)) rfl ?_)
    refine xl_op (P := Tryz.prog) (some 16) rfl rfl (ox_move (v := (.bool (!x_1))) rfl ?_)
    by_cases h2 : (!x_1) = true
    · skip
      have hb1 : h[x.n.toNat]! = x_1 := bang_of hx_2
      refine xl_skip (some 17) (j := 11) (b := false) true rfl rfl (congrArg some h2) (by decide) ?_
      refine xl_skip (some 18) (j := 11) (b := false) true rfl rfl (congrArg some h2) (by decide) ?_
      refine xl_skip (some 19) (j := 11) (b := false) true rfl rfl (congrArg some h2) (by decide) ?_
      refine xl_skip (some 20) (j := 11) (b := false) true rfl rfl (congrArg some h2) (by decide) ?_
      refine xl_skipU (some 21) (j := 15) (b := true) rfl rfl rfl ?_
      refine xl_skipU (some 22) (j := 15) (b := true) rfl rfl rfl ?_
      refine xl_skipU (some 23) (j := 15) (b := true) rfl rfl rfl ?_
      refine xl_skipU (some 24) (j := 15) (b := true) rfl rfl rfl ?_
      refine xl_skip (some 25) (j := 11) (b := false) true rfl rfl (congrArg some h2) (by decide) ?_
      refine xl_op (P := Tryz.prog) (some 26) rfl rfl (ox_pick_t (v := (.bool true)) (congrArg Value.bool h2) rfl ?_)
      refine xl_op (P := Tryz.prog) (some 4) rfl rfl (ox_assign (v := (.bool true)) rfl ?_)
      refine xl_nil ?_
      refine xc_ret ?_
      change leaves _ _ _ _ _ _ _
      refine leaves_nil (n := 27) (rs := [.tmp 4]) (vs := [(.bool true)]) rfl ⟨⟨by decide, rfl⟩, trivial⟩ ?_
      exact ⟨congrArg Value.bool (by unfold okS; first | (simp_all; done) | (rw [if_pos (by omega)]; simp_all) | (rw [if_neg (by omega)]; simp_all)), e1⟩
    · skip
      have hb1 : h[x.n.toNat]! = x_1 := bang_of hx_2
      refine xl_opg (P := Tryz.prog) (some 17) (j := 11) (b := false) rfl rfl (congrArg some (Bool.eq_false_iff.2 h2)) (ox_fieldAddr (b := w.heap.size) (o := 0) tF_32_0 rfl ?_)
      refine xl_opg (P := Tryz.prog) (some 18) (j := 11) (b := false) rfl rfl (congrArg some (Bool.eq_false_iff.2 h2)) (ox_load (v := (.int .i64 x.kind)) tA_3 rfl (b1.cell rfl) ?_)
      refine xl_opg (P := Tryz.prog) (some 19) (j := 11) (b := false) rfl rfl (congrArg some (Bool.eq_false_iff.2 h2)) (ox_neq (k := .i64) (a := x.kind) (b := 3) rfl rfl ?_)
      refine xl_opg (P := Tryz.prog) (some 20) (j := 11) (b := false) rfl rfl (congrArg some (Bool.eq_false_iff.2 h2)) (ox_move (v := (.bool (decide ((x.kind : Int) ≠ 3)))) rfl ?_)
      by_cases h3 : (x.kind : Int) ≠ 3
      · skip
        refine xl_opg (P := Tryz.prog) (some 21) (j := 15) (b := true) rfl rfl (congrArg some (decide_eq_true h3)) (ox_load (v := (.func (.func G) #[] CB.toArray)) tA_146 rfl ((hbg.ext e1).cell rfl) ?_)
        refine xl_opg (P := Tryz.prog) (some 22) (j := 15) (b := true) rfl rfl (congrArg some (decide_eq_true h3)) (ox_loadN (vs := [(.int .i64 x.kind), (.int .i64 x.n)]) tA_32 tS_32 rfl rfl ⟨b1.cell rfl, b1.cell rfl, trivial⟩ ?_)
        refine xl_opg (P := Tryz.prog) (some 23) (j := 15) (b := true) rfl rfl (congrArg some (decide_eq_true h3)) (ox_callV (cap := CB) (al := [(.agg #[(.int .i64 x.kind), (.int .i64 x.n)])]) hp rfl rfl (ret_mono (hg x w1) ?_))
        rintro _ w2 ⟨rfl, e2⟩
        have he2 := e2.size
        refine xl_opg (P := Tryz.prog) (some 24) (j := 15) (b := true) rfl rfl (congrArg some (decide_eq_true h3)) (ox_not (b := ((good x))) rfl ?_)
        refine xl_opg (P := Tryz.prog) (some 25) (j := 11) (b := false) rfl rfl (congrArg some (Bool.eq_false_iff.2 h2)) (ox_pick_t (v := (.bool (!(good x)))) (congrArg Value.bool (decide_eq_true h3)) rfl ?_)
        refine xl_op (P := Tryz.prog) (some 26) rfl rfl (ox_pick_f (v := (.bool (!(good x)))) (congrArg Value.bool (Bool.eq_false_iff.2 h2)) rfl ?_)
        refine xl_op (P := Tryz.prog) (some 4) rfl rfl (ox_assign (v := (.bool (!(good x)))) rfl ?_)
        refine xl_nil ?_
        refine xc_ret ?_
        change leaves _ _ _ _ _ _ _
        refine leaves_nil (n := 27) (rs := [.tmp 4]) (vs := [(.bool (!(good x)))]) rfl ⟨⟨by decide, rfl⟩, trivial⟩ ?_
        have x1 : Ext w w2 := (Ext.trans e1 e2)
        exact ⟨congrArg Value.bool (by unfold okS; first | (simp_all; done) | (rw [if_pos (by omega)]; simp_all) | (rw [if_neg (by omega)]; simp_all)), x1⟩
      · skip
        refine xl_skip (some 21) (j := 15) (b := true) false rfl rfl (congrArg some (decide_eq_false h3)) (by decide) ?_
        refine xl_skip (some 22) (j := 15) (b := true) false rfl rfl (congrArg some (decide_eq_false h3)) (by decide) ?_
        refine xl_skip (some 23) (j := 15) (b := true) false rfl rfl (congrArg some (decide_eq_false h3)) (by decide) ?_
        refine xl_skip (some 24) (j := 15) (b := true) false rfl rfl (congrArg some (decide_eq_false h3)) (by decide) ?_
        refine xl_opg (P := Tryz.prog) (some 25) (j := 11) (b := false) rfl rfl (congrArg some (Bool.eq_false_iff.2 h2)) (ox_pick_f (v := (.bool false)) (congrArg Value.bool (decide_eq_false h3)) rfl ?_)
        refine xl_op (P := Tryz.prog) (some 26) rfl rfl (ox_pick_f (v := (.bool false)) (congrArg Value.bool (Bool.eq_false_iff.2 h2)) rfl ?_)
        refine xl_op (P := Tryz.prog) (some 4) rfl rfl (ox_assign (v := (.bool false)) rfl ?_)
        refine xl_nil ?_
        refine xc_ret ?_
        change leaves _ _ _ _ _ _ _
        refine leaves_nil (n := 27) (rs := [.tmp 4]) (vs := [(.bool false)]) rfl ⟨⟨by decide, rfl⟩, trivial⟩ ?_
        exact ⟨congrArg Value.bool (by unfold okS; first | (simp_all; done) | (rw [if_pos (by omega)]; simp_all) | (rw [if_neg (by omega)]; simp_all)), e1⟩
  · skip
    refine xl_skip (some 9) (j := 3) (b := true) false rfl rfl (congrArg some (decide_eq_false h1)) (by decide) ?_
    refine xl_skip (some 10) (j := 3) (b := true) false rfl rfl (congrArg some (decide_eq_false h1)) (by decide) ?_
    refine xl_skip (some 11) (j := 3) (b := true) false rfl rfl (congrArg some (decide_eq_false h1)) (by decide) ?_
    refine xl_skip (some 12) (j := 3) (b := true) false rfl rfl (congrArg some (decide_eq_false h1)) (by decide) ?_
    refine xl_skip (some 13) (j := 3) (b := true) false rfl rfl (congrArg some (decide_eq_false h1)) (by decide) ?_
    refine xl_skip (some 14) (j := 3) (b := true) false rfl rfl (congrArg some (decide_eq_false h1)) (by decide) ?_
    refine xl_op (P := Tryz.prog) (some 15) rfl rfl (ox_pick_f (v := (.bool false)) (congrArg Value.bool (decide_eq_false h1)) rfl ?_)
    refine xl_op (P := Tryz.prog) (some 16) rfl rfl (ox_move (v := (.bool false)) rfl ?_)
    refine xl_opg (P := Tryz.prog) (some 17) (j := 11) (b := false) rfl rfl rfl (ox_fieldAddr (b := w.heap.size) (o := 0) tF_32_0 rfl ?_)
    refine xl_opg (P := Tryz.prog) (some 18) (j := 11) (b := false) rfl rfl rfl (ox_load (v := (.int .i64 x.kind)) tA_3 rfl (b1.cell rfl) ?_)
    refine xl_opg (P := Tryz.prog) (some 19) (j := 11) (b := false) rfl rfl rfl (ox_neq (k := .i64) (a := x.kind) (b := 3) rfl rfl ?_)
    refine xl_opg (P := Tryz.prog) (some 20) (j := 11) (b := false) rfl rfl rfl (ox_move (v := (.bool (decide ((x.kind : Int) ≠ 3)))) rfl ?_)
    by_cases h4 : (x.kind : Int) ≠ 3
    · skip
      refine xl_opg (P := Tryz.prog) (some 21) (j := 15) (b := true) rfl rfl (congrArg some (decide_eq_true h4)) (ox_load (v := (.func (.func G) #[] CB.toArray)) tA_146 rfl ((hbg.ext e1).cell rfl) ?_)
      refine xl_opg (P := Tryz.prog) (some 22) (j := 15) (b := true) rfl rfl (congrArg some (decide_eq_true h4)) (ox_loadN (vs := [(.int .i64 x.kind), (.int .i64 x.n)]) tA_32 tS_32 rfl rfl ⟨b1.cell rfl, b1.cell rfl, trivial⟩ ?_)
      refine xl_opg (P := Tryz.prog) (some 23) (j := 15) (b := true) rfl rfl (congrArg some (decide_eq_true h4)) (ox_callV (cap := CB) (al := [(.agg #[(.int .i64 x.kind), (.int .i64 x.n)])]) hp rfl rfl (ret_mono (hg x w1) ?_))
      rintro _ w3 ⟨rfl, e3⟩
      have he3 := e3.size
      refine xl_opg (P := Tryz.prog) (some 24) (j := 15) (b := true) rfl rfl (congrArg some (decide_eq_true h4)) (ox_not (b := ((good x))) rfl ?_)
      refine xl_opg (P := Tryz.prog) (some 25) (j := 11) (b := false) rfl rfl rfl (ox_pick_t (v := (.bool (!(good x)))) (congrArg Value.bool (decide_eq_true h4)) rfl ?_)
      refine xl_op (P := Tryz.prog) (some 26) rfl rfl (ox_pick_f (v := (.bool (!(good x)))) rfl rfl ?_)
      refine xl_op (P := Tryz.prog) (some 4) rfl rfl (ox_assign (v := (.bool (!(good x)))) rfl ?_)
      refine xl_nil ?_
      refine xc_ret ?_
      change leaves _ _ _ _ _ _ _
      refine leaves_nil (n := 27) (rs := [.tmp 4]) (vs := [(.bool (!(good x)))]) rfl ⟨⟨by decide, rfl⟩, trivial⟩ ?_
      have x2 : Ext w w3 := (Ext.trans e1 e3)
      exact ⟨congrArg Value.bool (by unfold okS; first | (simp_all; done) | (rw [if_pos (by omega)]; simp_all) | (rw [if_neg (by omega)]; simp_all)), x2⟩
    · skip
      refine xl_skip (some 21) (j := 15) (b := true) false rfl rfl (congrArg some (decide_eq_false h4)) (by decide) ?_
      refine xl_skip (some 22) (j := 15) (b := true) false rfl rfl (congrArg some (decide_eq_false h4)) (by decide) ?_
      refine xl_skip (some 23) (j := 15) (b := true) false rfl rfl (congrArg some (decide_eq_false h4)) (by decide) ?_
      refine xl_skip (some 24) (j := 15) (b := true) false rfl rfl (congrArg some (decide_eq_false h4)) (by decide) ?_
      refine xl_opg (P := Tryz.prog) (some 25) (j := 11) (b := false) rfl rfl rfl (ox_pick_f (v := (.bool false)) (congrArg Value.bool (decide_eq_false h4)) rfl ?_)
      refine xl_op (P := Tryz.prog) (some 26) rfl rfl (ox_pick_f (v := (.bool false)) rfl rfl ?_)
      refine xl_op (P := Tryz.prog) (some 4) rfl rfl (ox_assign (v := (.bool false)) rfl ?_)
      refine xl_nil ?_
      refine xc_ret ?_
      change leaves _ _ _ _ _ _ _
      refine leaves_nil (n := 27) (rs := [.tmp 4]) (vs := [(.bool false)]) rfl ⟨⟨by decide, rfl⟩, trivial⟩ ?_
      exact ⟨congrArg Value.bool (by unfold okS; first | (simp_all; done) | (rw [if_pos (by omega)]; simp_all) | (rw [if_neg (by omega)]; simp_all)), e1⟩
theorem made1_calls (s : SP) (bs bg n c : Nat) (A : Option Addr) (h0 : List Bool) (good : Sym → Bool) (G : Nat) (CB : List Value) (w0 : World) (w : World) (hbs : Blk w bs #[(.slice s.lA s.lex.length s.lc), (.slice s.nA s.names.length s.nc), (.int .i64 s.start), (.slice s.pA s.prods.length s.pc)] 26) (hbg : Blk w bg #[.func (.func G) #[] CB.toArray] 146) (hE0 : Ext w0 w) (hlow : ∀ k, (Value.slice A n c).ownBlock = some k → w0.heap.size ≤ k) (hS : SpR w0 s) (hG : GoodG s.g) (hn : n = s.names.length) (hO : Vx.Own w 4 1 (.slice A n c) n (h0.flatMap bools)) (hp : plainF Tryz.prog G = true) (hg : ∀ x W, Calls Tryz.prog G ([Value.agg (Sym.cs x).toArray] ++ CB).toArray W (Ret fun v W' => v = .bool (good x) ∧ Ext W W')) :
    Calls Tryz.prog 121 #[(.slice A n c), (.pointer (some ⟨bs, 0, none⟩)), (.pointer (some ⟨bg, 0, none⟩))] w (Ret (fun v w' => v = .tuple #[.slice A n c, .bool (stepB good s.g.prods h0 false).2] ∧ Vx.Own w' 4 1 (.slice A n c) n (((stepB good s.g.prods h0 false).1).flatMap bools) ∧ Chg (fun b => (Value.slice A n c).ownBlock = some b) w w')) := by
  have hfp := hS.fp.le
  have hsz0_ := hE0.size
  refine calls_xc (n := 38) (f := fun s_ => [(.slice A n c), (.pointer (some ⟨bs, 0, none⟩)), (.pointer (some ⟨bg, 0, none⟩))].getD s_ undef) Tryz.func121 rfl rfl (by simp) (fun s_ => by simp) ?_
  refine xc_seq ?_
  refine xc_region ?_
  refine xl_op (P := Tryz.prog) (some 3) rfl rfl (ox_box (v := (.slice A n c)) rfl ?_)
  intro w1 e1 z1 b1
  replace b1 : Blk w1 w.heap.size #[(.slice A n c)] 144 := b1
  refine xl_op (P := Tryz.prog) (some 4) rfl rfl (ox_assign (v := (.slice none 0 0)) rfl ?_)
  refine xl_op (P := Tryz.prog) (some 5) rfl rfl (ox_assign (v := (.bool false)) rfl ?_)
  refine xl_nil ?_
  refine xc_seq ?_
  refine xc_region ?_
  refine xl_op (P := Tryz.prog) (some 6) rfl rfl (ox_assign (v := (.bool false)) rfl ?_)
  refine xl_nil ?_
  refine xc_seq ?_
  refine xc_seq ?_
  refine xc_region ?_
  refine xl_op (P := Tryz.prog) (some 10) rfl rfl (ox_fieldAddr (b := bs) (o := 0) tF_26_3 rfl ?_)
  refine xl_op (P := Tryz.prog) (some 11) rfl rfl (ox_load (v := (.slice s.pA s.prods.length s.pc)) tA_24 rfl ((hbs.ext e1).cell rfl) ?_)
  refine xl_op (P := Tryz.prog) (some 12) rfl rfl (ox_len (A := s.pA) (n := s.prods.length) (cp := s.pc) rfl tU_24 rfl ?_)
  refine xl_op (P := Tryz.prog) (some 13) rfl rfl (ox_move (v := (.int .i64 0)) rfl ?_)
  refine xl_nil ?_
  refine xc_block ?_
  refine xc_loopN (fun m_ f_ Wx => ∃ (i : Nat) (g : Bool) (h : List Bool), m_ = s.prods.length - i ∧ (i ≤ s.prods.length) ∧ (stepB good s.g.prods h0 false = stepB good (s.g.prods.drop i) h g) ∧ f_ 2 = (.pointer (some ⟨bg, 0, none⟩)) ∧ f_ 3 = (.pointer (some ⟨w.heap.size, 0, none⟩)) ∧ f_ 4 = (.slice none 0 0) ∧ f_ 5 = (.bool false) ∧ f_ 11 = (.slice s.pA s.prods.length s.pc) ∧ f_ 12 = (.int .i64 (((s.prods.length : Nat) : Int))) ∧ f_ 13 = (.int .i64 ((i : Nat))) ∧ f_ 6 = (.bool g) ∧ Vx.Own Wx 4 1 (.slice A n c) n (h.flatMap bools) ∧ Chg (fun b => ((.slice A n c) : Value).ownBlock = some b) w1 Wx) (s.prods.length) ?_ ?_
  · exact ⟨0, false, h0, (by omega), (by omega), rfl, rfl, rfl, rfl, rfl, rfl, rfl, (by first | exact rfl | exact (congrArg (Value.int .i64) (by omega))), rfl, (hO.ext e1), (Chg.refl _ _)⟩
  · rintro m_ f1 w2 ⟨i, g, h, hm_f1, hi, hq, g2_f1, g3_f1, g4_f1, g5_f1, g11_f1, g12_f1, g13_f1, g6_f1, o0_f1, x1⟩
    have hx1 := x1.size
    have hl_h : h.length = n := by have _q := (o0_f1).len; rw [fm_len bools_len] at _q; omega
    refine xc_seq ?_
    refine xc_region ?_
    refine xl_op (P := Tryz.prog) (some 14) rfl rfl (ox_lss (k := .i64) (a := ((i : Nat))) (b := (((s.prods.length : Nat) : Int))) g13_f1 g12_f1 ?_)
    refine xl_nil ?_
    refine xc_seq ?_
    refine xc_if (p := ((i : Nat) : Int) < (((s.prods.length : Nat) : Int))) rfl (fun h1 => ?_) (fun h1 => ?_)
    · skip
      refine xc_skip ?_
      refine xc_seq ?_
      refine xc_block ?_
      refine xc_seq ?_
      refine xc_region ?_
      have x2 : Ext w0 w2 := (Chg.trans (Ext.trans hE0 e1) x1 (fun b hb hl => (absurd hl (by have _h := hlow b hb; omega))))
      obtain ⟨x_1, g_1, o_1, hx_1⟩ := row_may (A := s.pA) (cs := PD.cs) i PD.len (by decide) (RowA.ext hS.prods x2)
      obtain ⟨hx_2, hA_1, hc_1⟩ := hx_1 (by first | omega | (simp only [List.length_drop, List.length_replicate, List.length_set, List.length_append, List.length_map, List.length_singleton] at *; omega))
      have hfr_x_1 := (hS.fr _ (List.mem_of_getElem? hx_2)).le
      have hgd_x_1 := hG.2 _ (List.mem_of_getElem? (map_get (f := PD.d) hx_2))
      have hgl_x_1 : 0 ≤ x_1.left ∧ x_1.left < (s.names.length : Int) := ⟨hgd_x_1.1, hgd_x_1.2.1⟩
      refine xl_op (P := Tryz.prog) (some 15) rfl rfl (ox_ixA (b := g_1) (o := o_1) (i := ((i : Nat))) i tE_24 hA_1 g11_f1 g13_f1 rfl (by omega) ?_)
      refine xl_op (P := Tryz.prog) (some 16) rfl rfl (ox_loadN (vs := [(.int .i64 x_1.left), (.slice x_1.rA x_1.right.length x_1.rc)]) tA_37 tS_37 rfl rfl hc_1 ?_)
      refine xl_op (P := Tryz.prog) (some 8) rfl rfl (ox_alloc tZ_37 ?_)
      intro w3 e2 z2 b2
      replace b2 : Blk w3 w2.heap.size #[(.int .i64 0), (.slice none 0 0)] 37 := b2
      refine xl_op (P := Tryz.prog) none rfl rfl (ox_store (n := 2) (vs := [(.int .i64 x_1.left), (.slice x_1.rA x_1.right.length x_1.rc)]) tS_37 rfl (v := (.agg #[(.int .i64 x_1.left), (.slice x_1.rA x_1.right.length x_1.rc)])) rfl rfl rfl rfl b2 (Nat.le_of_ble_eq_true rfl) ?_)
      intro w4 e3 z3 b3
      replace b3 : Blk w4 w2.heap.size #[(.int .i64 x_1.left), (.slice x_1.rA x_1.right.length x_1.rc)] 37 := blk_full b3 rfl
      refine xl_nil ?_
      refine xc_seq ?_
      refine xc_region ?_
      refine xl_op (P := Tryz.prog) (some 17) rfl rfl (ox_mkFunc (cs := [(.pointer (some ⟨w.heap.size, 0, none⟩)), (.pointer (some ⟨bg, 0, none⟩))]) (cons_eq g3_f1 (cons_eq g2_f1 rfl)) ?_)
      refine xl_op (P := Tryz.prog) (some 9) rfl rfl (ox_assign (v := (.func (.func 122) #[] #[(.pointer (some ⟨w.heap.size, 0, none⟩)), (.pointer (some ⟨bg, 0, none⟩))])) rfl ?_)
      refine xl_nil ?_
      refine xc_seq ?_
      refine xc_region ?_
      have q1 := (b1.keep x1 (fun _h => (hO.ext e1).ne_blk b1 (by decide) _ _h rfl))
      have q2 := ((q1.ext e2).keep1 e3 ((q1.ext e2).ne b2 (by decide)))
      refine xl_op (P := Tryz.prog) (some 18) rfl rfl (ox_load (v := (.slice A n c)) tA_144 g3_f1 (q2.cell rfl) ?_)
      refine xl_op (P := Tryz.prog) (some 19) rfl rfl (ox_fieldAddr (b := w2.heap.size) (o := 0) tF_37_0 rfl ?_)
      refine xl_op (P := Tryz.prog) (some 20) rfl rfl (ox_load (v := (.int .i64 x_1.left)) tA_3 rfl (b3.cell rfl) ?_)
      have q3 := ((o0_f1.ext e2).keep1 e3 (fun k hk => (o0_f1.ext e2).ne_blk b2 (by decide) k hk))
      obtain ⟨x_2, g_2, hx_3⟩ := own_may (A := A) x_1.left.toNat bools_len (by decide) q3
      obtain ⟨hx_4, hA_2, hc_2⟩ := hx_3 (by first | omega | (simp only [List.length_drop, List.length_replicate, List.length_set, List.length_append, List.length_map, List.length_singleton] at *; omega))
      refine xl_op (P := Tryz.prog) (some 21) rfl rfl (ox_ixA (b := g_2) (o := 0) (i := x_1.left) x_1.left.toNat tE_144 hA_2 rfl rfl (by omega) (by omega) ?_)
      refine xl_op (P := Tryz.prog) (some 22) rfl rfl (ox_load (v := (.bool x_2)) tA_4 rfl (CellsL.at1 hc_2 0 rfl) ?_)
      refine xl_op (P := Tryz.prog) (some 23) rfl rfl (ox_not (b := x_2) rfl ?_)
      refine xl_op (P := Tryz.prog) (some 24) rfl rfl (ox_move (v := (.bool (!x_2))) rfl ?_)
      by_cases h2 : (!x_2) = true
      · skip
        have hy_ : x_2 = false := by cases x_2 <;> simp_all
        refine xl_opg (P := Tryz.prog) (some 25) (j := 6) (b := true) rfl rfl (congrArg some h2) (ox_fieldAddr (b := w2.heap.size) (o := 0) tF_37_1 rfl ?_)
        refine xl_opg (P := Tryz.prog) (some 26) (j := 6) (b := true) rfl rfl (congrArg some h2) (ox_load (v := (.slice x_1.rA x_1.right.length x_1.rc)) tA_33 rfl (b3.cell rfl) ?_)
        refine xl_opg (P := Tryz.prog) (some 27) (j := 6) (b := true) rfl rfl (congrArg some h2) (ox_move (v := (.func (.func 122) #[] #[(.pointer (some ⟨w.heap.size, 0, none⟩)), (.pointer (some ⟨bg, 0, none⟩))])) rfl ?_)
        have x3 : Ext w0 w4 := (Ext.chg1 (Ext.trans x2 e2) e3 (by omega))
        have q4 := ((hbg.ext e1).keep x1 (fun _h => (hO.ext e1).ne_blk (hbg.ext e1) (by decide) _ _h rfl))
        have q5 := ((q4.ext e2).keep1 e3 ((q4.ext e2).ne b2 (by decide)))
        refine xl_opg (P := Tryz.prog) (some 28) (j := 6) (b := true) rfl rfl (congrArg some h2) (ox_callE (al := [(.slice x_1.rA x_1.right.length x_1.rc), (.func (.func 122) #[] #[(.pointer (some ⟨w.heap.size, 0, none⟩)), (.pointer (some ⟨bg, 0, none⟩))])]) pf_123 rfl (ret_mono (containsFSym x_1.right x_1.rA x_1.rc (fun x => !okS good h x) 122 [.pointer (some ⟨w.heap.size, 0, none⟩), .pointer (some ⟨bg, 0, none⟩)] w4 (RowA.ext ((hS.right _ (List.mem_of_getElem? hx_2))) x3) (by omega) pf_122 (fun x hx W hW => made11_calls x w.heap.size bg n c A h good G CB W (q2.ext hW) (q5.ext hW) ((Own.rowO q3).ext hW) (by omega) (fun hk => by have _q := symE_name (hgd_x_1.2.2 x hx) hk; rw [hn]; exact _q) hp hg)) ?_))
        rintro _ w5 ⟨rfl, e4⟩
        have he4 := e4.size
        refine xl_opg (P := Tryz.prog) (some 29) (j := 6) (b := true) rfl rfl (congrArg some h2) (ox_not (b := ((x_1.right.any (fun x => !okS good h x)))) rfl ?_)
        refine xl_op (P := Tryz.prog) (some 30) rfl rfl (ox_pick_t (v := (.bool (!(x_1.right.any (fun x => !okS good h x))))) (congrArg Value.bool h2) rfl ?_)
        refine xl_nil ?_
        refine xc_cond (b := (!(x_1.right.any (fun x => !okS good h x)))) rfl (fun h3 => ?_) (fun h3 => ?_)
        · skip
          have h3' := h3
          try simp only [Bool.or_eq_true, Bool.and_eq_true, decide_eq_true_eq, Bool.or_eq_false_iff, Bool.and_eq_false_iff, decide_eq_false_iff_not, Bool.not_eq_true', Bool.not_eq_false'] at h3'
          have ha_ : x_1.right.any (fun x => !okS good h x) = false := by simpa using h3
          refine xc_region ?_
          refine xl_op (P := Tryz.prog) (some 31) rfl rfl (ox_load (v := (.slice A n c)) tA_144 g3_f1 ((q2.ext e4).cell rfl) ?_)
          refine xl_op (P := Tryz.prog) (some 32) rfl rfl (ox_fieldAddr (b := w2.heap.size) (o := 0) tF_37_0 rfl ?_)
          refine xl_op (P := Tryz.prog) (some 33) rfl rfl (ox_load (v := (.int .i64 x_1.left)) tA_3 rfl ((b3.ext e4).cell rfl) ?_)
          refine xl_op (P := Tryz.prog) (some 34) rfl rfl (ox_ixA (b := g_2) (o := 0) (i := x_1.left) x_1.left.toNat tE_144 hA_2 rfl rfl (by omega) (by omega) ?_)
          refine xl_op (P := Tryz.prog) none rfl rfl (ox_stE (i := x_1.left.toNat) (off := 0) (vs := [(.bool true)]) (b := (true : Bool)) bools_len tS_4 hA_2 rfl (v := (.bool true)) rfl rfl rfl rfl (q3.ext e4) hx_4 rfl (by decide) (by omega) ?_)
          intro w6 e5 z4 o1
          refine xl_op (P := Tryz.prog) (some 6) rfl rfl (ox_assign (v := (.bool true)) rfl ?_)
          refine xl_nil ?_
          refine xc_region ?_
          refine xl_op (P := Tryz.prog) (some 35) rfl rfl (ox_add64 (a := ((i : Nat))) (b := 1) g13_f1 rfl (by omega) ?_)
          refine xl_op (P := Tryz.prog) (some 13) rfl rfl (ox_move (v := (.int .i64 ((i : Nat) + 1))) rfl ?_)
          refine xl_nil ?_
          have y1 : Chg (fun b => ((.slice A n c) : Value).ownBlock = some b) w1 w6 := (Chg.trans (Chg.ext (Chg.chg1 (Chg.ext (Chg.trans (Chg.refl (fun b => ((.slice A n c) : Value).ownBlock = some b) w1) x1 (fun b hb hl => hb)) e2) e3 (.inr (by omega))) e4) e5 (fun b hb hl => hb))
          exact ⟨rfl, s.prods.length - (i + 1), by omega, i + 1, true, (h.set x_1.left.toNat true), by omega, (by omega), (hq.trans ((congrArg (fun z => stepB good z h g) (SP.dp hx_2)).trans (stepB_yes (p := x_1.d) (by show h[x_1.left.toNat]! = false; rw [bang_of hx_4, hy_]) (by show x_1.right.any (fun x => !okS good h x) = false; rw [ha_])))), g2_f1, g3_f1, g4_f1, g5_f1, g11_f1, g12_f1, (by first | exact rfl | exact (congrArg (Value.int .i64) (by omega))), rfl, o1, y1⟩
        · skip
          have h3' := h3
          try simp only [Bool.or_eq_true, Bool.and_eq_true, decide_eq_true_eq, Bool.or_eq_false_iff, Bool.and_eq_false_iff, decide_eq_false_iff_not, Bool.not_eq_true', Bool.not_eq_false'] at h3'
          have ha_ : x_1.right.any (fun x => !okS good h x) = true := by simpa using h3
          refine xc_skip ?_
          refine xc_region ?_
          refine xl_op (P := Tryz.prog) (some 35) rfl rfl (ox_add64 (a := ((i : Nat))) (b := 1) g13_f1 rfl (by omega) ?_)
          refine xl_op (P := Tryz.prog) (some 13) rfl rfl (ox_move (v := (.int .i64 ((i : Nat) + 1))) rfl ?_)
          refine xl_nil ?_
          have y2 : Chg (fun b => ((.slice A n c) : Value).ownBlock = some b) w1 w5 := (Chg.ext (Chg.chg1 (Chg.ext (Chg.trans (Chg.refl (fun b => ((.slice A n c) : Value).ownBlock = some b) w1) x1 (fun b hb hl => hb)) e2) e3 (.inr (by omega))) e4)
          exact ⟨rfl, s.prods.length - (i + 1), by omega, i + 1, g, h, by omega, (by omega), (hq.trans ((congrArg (fun z => stepB good z h g) (SP.dp hx_2)).trans (stepB_no2 (p := x_1.d) (by show x_1.right.any (fun x => !okS good h x) ≠ false; rw [ha_]; decide)))), g2_f1, g3_f1, g4_f1, g5_f1, g11_f1, g12_f1, (by first | exact rfl | exact (congrArg (Value.int .i64) (by omega))), g6_f1, (q3.ext e4), y2⟩
      · skip
        have hy_ : x_2 = true := by cases x_2 <;> simp_all
        refine xl_skip (some 25) (j := 6) (b := true) false rfl rfl (congrArg some (Bool.eq_false_iff.2 h2)) (by decide) ?_
        refine xl_skip (some 26) (j := 6) (b := true) false rfl rfl (congrArg some (Bool.eq_false_iff.2 h2)) (by decide) ?_
        refine xl_skip (some 27) (j := 6) (b := true) false rfl rfl (congrArg some (Bool.eq_false_iff.2 h2)) (by decide) ?_
        refine xl_skip (some 28) (j := 6) (b := true) false rfl rfl (congrArg some (Bool.eq_false_iff.2 h2)) (by decide) ?_
        refine xl_skip (some 29) (j := 6) (b := true) false rfl rfl (congrArg some (Bool.eq_false_iff.2 h2)) (by decide) ?_
        refine xl_op (P := Tryz.prog) (some 30) rfl rfl (ox_pick_f (v := (.bool false)) (congrArg Value.bool (Bool.eq_false_iff.2 h2)) rfl ?_)
        refine xl_nil ?_
        refine xc_cond_f rfl ?_
        refine xc_skip ?_
        refine xc_region ?_
        refine xl_op (P := Tryz.prog) (some 35) rfl rfl (ox_add64 (a := ((i : Nat))) (b := 1) g13_f1 rfl (by omega) ?_)
        refine xl_op (P := Tryz.prog) (some 13) rfl rfl (ox_move (v := (.int .i64 ((i : Nat) + 1))) rfl ?_)
        refine xl_nil ?_
        have y3 : Chg (fun b => ((.slice A n c) : Value).ownBlock = some b) w1 w4 := (Chg.chg1 (Chg.ext (Chg.trans (Chg.refl (fun b => ((.slice A n c) : Value).ownBlock = some b) w1) x1 (fun b hb hl => hb)) e2) e3 (.inr (by omega)))
        exact ⟨rfl, s.prods.length - (i + 1), by omega, i + 1, g, h, by omega, (by omega), (hq.trans ((congrArg (fun z => stepB good z h g) (SP.dp hx_2)).trans (stepB_no1 (p := x_1.d) (by show h[x_1.left.toNat]! ≠ false; rw [bang_of hx_4, hy_]; decide)))), g2_f1, g3_f1, g4_f1, g5_f1, g11_f1, g12_f1, (by first | exact rfl | exact (congrArg (Value.int .i64) (by omega))), g6_f1, q3, y3⟩
    · skip
      refine xc_exit ?_
      refine xc_seq ?_
      refine xc_region ?_
      have q6 := (b1.keep x1 (fun _h => (hO.ext e1).ne_blk b1 (by decide) _ _h rfl))
      refine xl_op (P := Tryz.prog) (some 36) rfl rfl (ox_load (v := (.slice A n c)) tA_144 g3_f1 (q6.cell rfl) ?_)
      refine xl_op (P := Tryz.prog) (some 37) rfl rfl (ox_move (v := (.bool g)) g6_f1 ?_)
      refine xl_op (P := Tryz.prog) (some 4) rfl rfl (ox_assign (v := (.slice A n c)) rfl ?_)
      refine xl_op (P := Tryz.prog) (some 5) rfl rfl (ox_assign (v := (.bool g)) rfl ?_)
      refine xl_nil ?_
      refine xc_ret ?_
      change leaves _ _ _ _ _ _ _
      refine leaves_nil (n := 38) (rs := [.tmp 4, .tmp 5]) (vs := [(.slice A n c), (.bool g)]) rfl ⟨⟨by decide, rfl⟩, ⟨by decide, rfl⟩, trivial⟩ ?_
      have y4 : Chg (fun b => ((.slice A n c) : Value).ownBlock = some b) w w2 := (Chg.trans (Chg.ext (Chg.refl (fun b => ((.slice A n c) : Value).ownBlock = some b) w) e1) x1 (fun b hb hl => hb))
      exact ⟨by rw [hq, List.drop_of_length_le (by rw [s.gprods]; omega)]; rfl, by rw [hq, List.drop_of_length_le (by rw [s.gprods]; omega)]; exact o0_f1, y4⟩
end Go.Proofs.YtnnmdkglgnlenaaGreatDoor
set_option linter.unusedVariables false
set_option linter.unusedSimpArgs false
set_option maxRecDepth 100000
set_option maxHeartbeats 4000000
namespace Go.Proofs.YtnnmdkglgnlenaaGreatDoor
open Go Go.RowKit Go.Vx
def rightG (g : GD) (p : Int) : List Sym := if p = -1 then [⟨3, g.start⟩] else (g.prods[p.toNat]!).2
def behindG (g : GD) (x : Itm) : Option Sym := (rightG g x.p)[x.dot.toNat]?
def behindV (o : Option Sym) : Value := match o with
  | some y => .tuple #[.agg #[.int .i64 y.kind, .int .i64 y.n], .bool true]
  | none => .tuple #[.agg #[.int .i64 0, .int .i64 0], .bool false]
theorem rightG_at {s : SP} {p : Int} {x : PD} (h : ¬ p = -1) (h0 : 0 ≤ p) (hx : s.prods[p.toNat]? = some x) : rightG s.g p = x.right := by
  rw [rightG, if_neg h]
  have h1 : s.g.prods[p.toNat]? = some x.d := map_get hx
  rw [List.getElem!_eq_getElem?_getD, h1]; rfl
theorem idxO_mem {α : Type} [DecidableEq α] {y : α} {l : List α} : 0 ≤ idxO y l 0 ↔ y ∈ l := by
  have key : ∀ (l : List α) (k : Nat), 0 ≤ idxO y l k ↔ y ∈ l := by
    intro l
    induction l with
    | nil => intro k; simp [idxO]
    | cons a l ih =>
      intro k; rw [idxO]
      by_cases h : y = a
      · rw [if_pos h]; simp [h]
      · rw [if_neg h, ih]; simp [h]
  exact key l 0
theorem fS_42 : flatS Tryz.prog 42 [.int .i64, .int .i64] = true := by kernel_rfl
theorem pf_127 : plainF Tryz.prog 127 = true := by kernel_rfl
theorem pf_128 : plainF Tryz.prog 128 = true := by kernel_rfl
theorem tA_42 : isAggT Tryz.prog 42 = some true := by kernel_rfl
theorem tF_42_0 : fieldT Tryz.prog 42 0 = some 0 := by kernel_rfl
theorem tF_42_1 : fieldT Tryz.prog 42 1 = some 1 := by kernel_rfl
theorem tF_97_0 : fieldT Tryz.prog 97 0 = some 0 := by kernel_rfl
theorem tP_32 : placesT Tryz.prog 32 = some #[(0, 1), (1, 1)] := by kernel_rfl
theorem tS_42 : sizeT Tryz.prog 42 = some 2 := by kernel_rfl
theorem indexItm (l : List Itm) (A : Option Addr) (c : Nat) (y : Itm) (w : World) (hA : RowA w A (l.flatMap Itm.cs)) (hn : l.length ≤ 8796093022208) :
    Calls Tryz.prog 128 #[(.slice A l.length c), (.agg #[(.int .i64 y.p), (.int .i64 y.dot)])] w (Ret (fun v w' => v = .int .i64 (idxO y l 0) ∧ Ext w w')) := by
  refine calls_xc (n := 19) (f := fun s_ => [(.slice A l.length c), (.agg #[(.int .i64 y.p), (.int .i64 y.dot)])].getD s_ undef) Tryz.func128 rfl rfl (by simp) (fun s_ => by simp) ?_
  refine xc_seq ?_
  refine xc_region ?_
  refine xl_op (P := Tryz.prog) (some 3) rfl rfl (ox_box (v := (.agg #[(.int .i64 y.p), (.int .i64 y.dot)])) rfl ?_)
  intro w1 e1 z1 b1
  replace b1 : Blk w1 w.heap.size #[(.int .i64 y.p), (.int .i64 y.dot)] 42 := b1
  refine xl_op (P := Tryz.prog) (some 4) rfl rfl (ox_assign (v := (.int .i64 0)) rfl ?_)
  refine xl_nil ?_
  refine xc_seq ?_
  refine xc_seq ?_
  refine xc_region ?_
  refine xl_op (P := Tryz.prog) (some 6) rfl rfl (ox_move (v := (.slice A l.length c)) rfl ?_)
  refine xl_op (P := Tryz.prog) (some 7) rfl rfl (ox_len (A := A) (n := l.length) (cp := c) rfl tU_39 rfl ?_)
  refine xl_op (P := Tryz.prog) (some 8) rfl rfl (ox_move (v := (.int .i64 0)) rfl ?_)
  refine xl_nil ?_
  refine xc_block ?_
  refine xc_loopN (fun m_ f_ Wx => ∃ (i : Nat), m_ = l.length - i ∧ (i ≤ l.length) ∧ (idxO y l 0 = idxO y (l.drop i) i) ∧ f_ 0 = (.slice A l.length c) ∧ f_ 3 = (.pointer (some ⟨w.heap.size, 0, none⟩)) ∧ f_ 7 = (.int .i64 (((l.length : Nat) : Int))) ∧ f_ 8 = (.int .i64 ((i : Nat))) ∧ Ext w1 Wx) (l.length) ?_ ?_
  · exact ⟨0, (by omega), (by omega), (by simp), rfl, rfl, rfl, (by first | exact rfl | exact (congrArg (Value.int .i64) (by omega))), (Chg.refl _ _)⟩
  · rintro m_ f1 w2 ⟨i, hm_f1, hi, hq, g0_f1, g3_f1, g7_f1, g8_f1, x1⟩
    have hx1 := x1.size
    refine xc_seq ?_
    refine xc_region ?_
    refine xl_op (P := Tryz.prog) (some 9) rfl rfl (ox_lss (k := .i64) (a := ((i : Nat))) (b := (((l.length : Nat) : Int))) g8_f1 g7_f1 ?_)
    refine xl_nil ?_
    refine xc_seq ?_
    refine xc_if (p := ((i : Nat) : Int) < (((l.length : Nat) : Int))) rfl (fun h1 => ?_) (fun h1 => ?_)
    · skip
      refine xc_skip ?_
      refine xc_seq ?_
      refine xc_block ?_
      refine xc_seq ?_
      refine xc_region ?_
      refine xl_op (P := Tryz.prog) (some 10) rfl rfl (ox_move (v := (.int .i64 ((i : Nat)))) g8_f1 ?_)
      refine xl_op (P := Tryz.prog) (some 5) rfl rfl (ox_assign (v := (.int .i64 ((i : Nat)))) rfl ?_)
      refine xl_nil ?_
      refine xc_seq ?_
      refine xc_regionE [] (fun W_ => Chg (fun _ => False) w2 W_) hmix ?_
      intro w3 e2 z2
      have hS1 : Chg (fun _ => False) w2 w3 := Ext.to e2
      refine xd_take 0 (some 11) rfl rfl (by kernel_rfl) (v := (.agg #[(.int .i64 y.p), (.int .i64 y.dot)])) (.inl ⟨rfl, fun W_ hW_ => ox_loadN (vs := [(.int .i64 y.p), (.int .i64 y.dot)]) tA_42 tS_42 g3_f1 rfl ⟨((b1.ext x1).ext hW_).cell rfl, ((b1.ext x1).ext hW_).cell rfl, trivial⟩ ⟨rfl, rfl⟩⟩) hS1 ?_
      refine xd_pure 1 (some 12) rfl rfl (by kernel_rfl) (v := (.slice A l.length c)) (.inl ⟨rfl, fun W_ hW_ => ox_move (v := (.slice A l.length c)) g0_f1 ⟨rfl, rfl⟩⟩) ?_
      refine xd_pure 2 (some 13) rfl rfl (by kernel_rfl) (v := (.int .i64 ((i : Nat)))) (.inl ⟨rfl, fun W_ hW_ => ox_move (v := (.int .i64 ((i : Nat)))) rfl ⟨rfl, rfl⟩⟩) ?_
      have x2 : Ext w w2 := (Ext.trans e1 x1)
      obtain ⟨x_1, g_1, o_1, hx_1⟩ := row_may (A := A) (cs := Itm.cs) i Itm.len (by decide) (RowA.ext hA x2)
      obtain ⟨hx_2, hA_1, hc_1⟩ := hx_1 (by first | omega | (simp only [List.length_drop, List.length_replicate, List.length_set, List.length_append, List.length_map, List.length_singleton] at *; omega))
      refine xd_pure 3 (some 14) rfl rfl (by kernel_rfl) (v := (.pointer (some ⟨g_1, o_1 + i * 2, none⟩))) (.inl ⟨rfl, fun W_ hW_ => ox_ixA (b := g_1) (o := o_1) (i := ((i : Nat))) i tE_39 hA_1 rfl rfl rfl (by omega) ⟨rfl, rfl⟩⟩) ?_
      refine xd_take 4 (some 15) rfl rfl (by kernel_rfl) (v := (.agg #[(.int .i64 x_1.p), (.int .i64 x_1.dot)])) (.inl ⟨rfl, fun W_ hW_ => ox_loadN (vs := [(.int .i64 x_1.p), (.int .i64 x_1.dot)]) tA_42 tS_42 rfl rfl (CellsL.keep hW_ not_false hc_1) ⟨rfl, rfl⟩⟩) hS1 ?_
      refine xd_pure 5 (some 16) rfl rfl (by kernel_rfl) (v := (.bool (decide (((y.p : Int) = x_1.p ∧ (y.dot : Int) = x_1.dot))))) (.inl ⟨rfl, fun W_ hW_ => ox_eqlF (xs := [(.int .i64 y.p), (.int .i64 y.dot)]) (ys := [(.int .i64 x_1.p), (.int .i64 x_1.dot)]) (p := ((y.p : Int) = x_1.p ∧ (y.dot : Int) = x_1.dot)) fS_42 rfl rfl rfl rfl (by simp) ⟨rfl, rfl⟩⟩) ?_
      refine xd_done (by kernel_rfl) ?_ _
      refine xc_if (p := ((y.p : Int) = x_1.p ∧ (y.dot : Int) = x_1.dot)) rfl (fun h2 => ?_) (fun h2 => ?_)
      · skip
        refine xc_seq ?_
        refine xc_region ?_
        refine xl_op (P := Tryz.prog) (some 17) rfl rfl (ox_move (v := (.int .i64 ((i : Nat)))) rfl ?_)
        refine xl_op (P := Tryz.prog) (some 4) rfl rfl (ox_assign (v := (.int .i64 ((i : Nat)))) rfl ?_)
        refine xl_nil ?_
        refine xc_ret ?_
        change leaves _ _ _ _ _ _ _
        refine leaves_nil (n := 19) (rs := [.tmp 4]) (vs := [(.int .i64 ((i : Nat)))]) rfl ⟨⟨by decide, rfl⟩, trivial⟩ ?_
        have x3 : Ext w w3 := (Ext.trans x2 e2)
        exact ⟨by rw [hq, idxO_hit hx_2 (by have _h := h2; cases y; cases x_1; simp_all)]; rfl, x3⟩
      · skip
        refine xc_skip ?_
        refine xc_region ?_
        refine xl_op (P := Tryz.prog) (some 18) rfl rfl (ox_add64 (a := ((i : Nat))) (b := 1) g8_f1 rfl (by omega) ?_)
        refine xl_op (P := Tryz.prog) (some 8) rfl rfl (ox_move (v := (.int .i64 ((i : Nat) + 1))) rfl ?_)
        refine xl_nil ?_
        have x4 : Ext w1 w3 := (Ext.trans x1 e2)
        exact ⟨rfl, l.length - (i + 1), by omega, i + 1, by omega, (by omega), (by rw [hq, idxO_next hx_2 (by have _h := h2; cases y; cases x_1; simp_all)]), g0_f1, g3_f1, g7_f1, (by first | exact rfl | exact (congrArg (Value.int .i64) (by omega))), x4⟩
    · skip
      refine xc_exit ?_
      refine xc_seq ?_
      refine xc_region ?_
      refine xl_op (P := Tryz.prog) (some 4) rfl rfl (ox_assign (v := (.int .i64 (-1))) rfl ?_)
      refine xl_nil ?_
      refine xc_ret ?_
      change leaves _ _ _ _ _ _ _
      refine leaves_nil (n := 19) (rs := [.tmp 4]) (vs := [(.int .i64 (-1))]) rfl ⟨⟨by decide, rfl⟩, trivial⟩ ?_
      have x5 : Ext w w2 := (Ext.trans e1 x1)
      exact ⟨by rw [hq, idxO_end (by omega)]; rfl, x5⟩
theorem containsItm (l : List Itm) (A : Option Addr) (c : Nat) (y : Itm) (w : World) (hA : RowA w A (l.flatMap Itm.cs)) (hn : l.length ≤ 8796093022208) :
    Calls Tryz.prog 96 #[(.slice A l.length c), (.agg #[(.int .i64 y.p), (.int .i64 y.dot)])] w (Ret (fun v w' => v = .bool (decide (y ∈ l)) ∧ Ext w w')) := by
  refine calls_xc (n := 9) (f := fun s_ => [(.slice A l.length c), (.agg #[(.int .i64 y.p), (.int .i64 y.dot)])].getD s_ undef) Tryz.func96 rfl rfl (by simp) (fun s_ => by simp) ?_
  refine xc_seq ?_
  refine xc_region ?_
  refine xl_op (P := Tryz.prog) (some 3) rfl rfl (ox_box (v := (.agg #[(.int .i64 y.p), (.int .i64 y.dot)])) rfl ?_)
  intro w1 e1 z1 b1
  replace b1 : Blk w1 w.heap.size #[(.int .i64 y.p), (.int .i64 y.dot)] 42 := b1
  refine xl_op (P := Tryz.prog) (some 4) rfl rfl (ox_assign (v := (.bool false)) rfl ?_)
  refine xl_nil ?_
  refine xc_seq ?_
  refine xc_region ?_
  refine xl_op (P := Tryz.prog) (some 5) rfl rfl (ox_move (v := (.slice A l.length c)) rfl ?_)
  refine xl_op (P := Tryz.prog) (some 6) rfl rfl (ox_loadN (vs := [(.int .i64 y.p), (.int .i64 y.dot)]) tA_42 tS_42 rfl rfl ⟨b1.cell rfl, b1.cell rfl, trivial⟩ ?_)
  refine xl_op (P := Tryz.prog) (some 7) rfl rfl (ox_callE (al := [(.slice A l.length c), (.agg #[(.int .i64 y.p), (.int .i64 y.dot)])]) pf_128 rfl (ret_mono (indexItm l A c y w1 (hA.ext e1) hn) ?_))
  rintro _ w2 ⟨rfl, e2⟩
  have he2 := e2.size
  refine xl_op (P := Tryz.prog) (some 8) rfl rfl (ox_geq (k := .i64) (a := (idxO y l 0)) (b := 0) rfl rfl ?_)
  refine xl_op (P := Tryz.prog) (some 4) rfl rfl (ox_assign (v := (.bool (decide ((0 : Int) ≤ (idxO y l 0))))) rfl ?_)
  refine xl_nil ?_
  refine xc_ret ?_
  change leaves _ _ _ _ _ _ _
  refine leaves_nil (n := 9) (rs := [.tmp 4]) (vs := [(.bool (decide ((0 : Int) ≤ (idxO y l 0))))]) rfl ⟨⟨by decide, rfl⟩, trivial⟩ ?_
  have x1 : Ext w w2 := (Ext.trans e1 e2)
  exact ⟨congrArg Value.bool (by rw [decide_eq_decide]; exact idxO_mem), x1⟩
theorem right_calls (s : SP) (ba : Nat) (stA : Option Addr) (stn stc : Nat) (p : Int) (w : World) (hb : Blk w ba #[(.slice s.lA s.lex.length s.lc), (.slice s.nA s.names.length s.nc), (.int .i64 s.start), (.slice s.pA s.prods.length s.pc), (.slice stA stn stc)] 97) (hS : SpR w s) (hp : p = -1 ∨ (0 ≤ p ∧ p < (s.prods.length : Int))) :
    Calls Tryz.prog 127 #[(.pointer (some ⟨ba, 0, none⟩)), (.int .i64 p)] w (Ret (fun v w' => ∃ A c, v = .slice A (rightG s.g p).length c ∧ RowA w' A ((rightG s.g p).flatMap Sym.cs) ∧ Ext w w')) := by
  have hfp := hS.fp.le
  refine calls_xc (n := 23) (f := fun s_ => [(.pointer (some ⟨ba, 0, none⟩)), (.int .i64 p)].getD s_ undef) Tryz.func127 rfl rfl (by simp) (fun s_ => by simp) ?_
  refine xc_seq ?_
  refine xc_region ?_
  refine xl_op (P := Tryz.prog) (some 4) rfl rfl (ox_assign (v := (.slice none 0 0)) rfl ?_)
  refine xl_nil ?_
  refine xc_seq ?_
  refine xc_seq ?_
  refine xc_region ?_
  refine xl_op (P := Tryz.prog) (some 5) rfl rfl (ox_move (v := (.int .i64 p)) rfl ?_)
  refine xl_op (P := Tryz.prog) (some 6) rfl rfl (ox_eql (k := .i64) (a := p) (b := (-1)) rfl rfl ?_)
  refine xl_nil ?_
  refine xc_if (p := (p : Int) = (-1)) rfl (fun h1 => ?_) (fun h1 => ?_)
  · skip
    refine xc_seq ?_
    refine xc_region ?_
    refine xl_op (P := Tryz.prog) (some 7) rfl rfl (ox_move (v := (.pointer (some ⟨ba, 0, none⟩))) rfl ?_)
    refine xl_op (P := Tryz.prog) (some 8) rfl rfl (ox_nilCheck (p := ⟨ba, 0, none⟩) rfl ?_)
    refine xl_op (P := Tryz.prog) (some 9) rfl rfl (ox_fieldAddr (b := ba) (o := 0) tF_97_0 rfl ?_)
    refine xl_op (P := Tryz.prog) (some 10) rfl rfl (ox_fieldAddr (b := ba) (o := 0) tF_26_2 rfl ?_)
    refine xl_op (P := Tryz.prog) (some 11) rfl rfl (ox_load (v := (.int .i64 s.start)) tA_3 rfl (hb.cell rfl) ?_)
    refine xl_op (P := Tryz.prog) (some 12) rfl rfl (ox_mkStruct (ps := [(0, (.int .i64 3)), (1, (.int .i64 s.start))]) (cs := #[(.int .i64 3), (.int .i64 s.start)]) tZ_32 tP_32 rfl (by kernel_rfl) ?_)
    refine xl_op (P := Tryz.prog) (some 13) rfl rfl (ox_mkSlice (ps := [(0, (.agg #[(.int .i64 3), (.int .i64 s.start)]))]) (zs := #[(.int .i64 0), (.int .i64 0)]) (cs := #[(.int .i64 3), (.int .i64 s.start)]) tE_33 rfl (by decide) (by kernel_rfl) (by kernel_rfl) ?_)
    intro w1 e1 z1 b1
    replace b1 : Blk w1 w.heap.size #[(.int .i64 3), (.int .i64 s.start)] 32 := b1
    refine xl_op (P := Tryz.prog) (some 4) rfl rfl (ox_assign (v := (.slice (some ⟨w.heap.size, 0, none⟩) 1 1)) rfl ?_)
    refine xl_nil ?_
    refine xc_ret ?_
    change leaves _ _ _ _ _ _ _
    refine leaves_nil (n := 23) (rs := [.tmp 4]) (vs := [(.slice (some ⟨w.heap.size, 0, none⟩) 1 1)]) rfl ⟨⟨by decide, rfl⟩, trivial⟩ ?_
    exact ⟨_, _, by rw [rightG, if_pos h1]; rfl, by rw [rightG, if_pos h1]; exact ⟨fun _ => rfl, b1.cell rfl, b1.cell rfl, trivial⟩, e1⟩
  · skip
    refine xc_skip ?_
    refine xc_seq ?_
    refine xc_region ?_
    refine xl_op (P := Tryz.prog) (some 14) rfl rfl (ox_move (v := (.pointer (some ⟨ba, 0, none⟩))) rfl ?_)
    refine xl_op (P := Tryz.prog) (some 15) rfl rfl (ox_nilCheck (p := ⟨ba, 0, none⟩) rfl ?_)
    refine xl_op (P := Tryz.prog) (some 16) rfl rfl (ox_fieldAddr (b := ba) (o := 0) tF_97_0 rfl ?_)
    refine xl_op (P := Tryz.prog) (some 17) rfl rfl (ox_fieldAddr (b := ba) (o := 0) tF_26_3 rfl ?_)
    refine xl_op (P := Tryz.prog) (some 18) rfl rfl (ox_load (v := (.slice s.pA s.prods.length s.pc)) tA_24 rfl (hb.cell rfl) ?_)
    refine xl_op (P := Tryz.prog) (some 19) rfl rfl (ox_move (v := (.int .i64 p)) rfl ?_)
    obtain ⟨x_1, g_1, o_1, hx_1⟩ := row_may (A := s.pA) (cs := PD.cs) p.toNat PD.len (by decide) hS.prods
    obtain ⟨hx_2, hA_1, hc_1⟩ := hx_1 (by first | omega | (simp only [List.length_drop, List.length_replicate, List.length_set, List.length_append, List.length_map, List.length_singleton] at *; omega))
    have hfr_x_1 := (hS.fr _ (List.mem_of_getElem? hx_2)).le
    refine xl_op (P := Tryz.prog) (some 20) rfl rfl (ox_ixA (b := g_1) (o := o_1) (i := p) p.toNat tE_24 hA_1 rfl rfl (by omega) (by omega) ?_)
    refine xl_op (P := Tryz.prog) (some 21) rfl rfl (ox_fieldAddr (b := g_1) (o := (o_1 + p.toNat * 2)) tF_37_1 rfl ?_)
    refine xl_op (P := Tryz.prog) (some 22) rfl rfl (ox_load (v := (.slice x_1.rA x_1.right.length x_1.rc)) tA_33 rfl (CellsL.at1 hc_1 1 rfl) ?_)
    refine xl_op (P := Tryz.prog) (some 4) rfl rfl (ox_assign (v := (.slice x_1.rA x_1.right.length x_1.rc)) rfl ?_)
    refine xl_nil ?_
    refine xc_ret ?_
    change leaves _ _ _ _ _ _ _
    refine leaves_nil (n := 23) (rs := [.tmp 4]) (vs := [(.slice x_1.rA x_1.right.length x_1.rc)]) rfl ⟨⟨by decide, rfl⟩, trivial⟩ ?_
    exact ⟨_, _, by rw [rightG_at h1 (by omega) (show s.prods[p.toNat]? = some x_1 from hx_2)]; rfl, by rw [rightG_at h1 (by omega) (show s.prods[p.toNat]? = some x_1 from hx_2)]; exact (hS.right _ (List.mem_of_getElem? hx_2)).ext (Chg.refl _ _), (Chg.refl _ _)⟩
theorem behind_calls (s : SP) (ba : Nat) (stA : Option Addr) (stn stc : Nat) (x : Itm) (w : World) (hb : Blk w ba #[(.slice s.lA s.lex.length s.lc), (.slice s.nA s.names.length s.nc), (.int .i64 s.start), (.slice s.pA s.prods.length s.pc), (.slice stA stn stc)] 97) (hS : SpR w s) (hx : x.p = -1 ∨ (0 ≤ x.p ∧ x.p < (s.prods.length : Int))) (hd : 0 ≤ x.dot) (hl : (rightG s.g x.p).length ≤ 8796093022208) :
    Calls Tryz.prog 95 #[(.pointer (some ⟨ba, 0, none⟩)), (.agg #[(.int .i64 x.p), (.int .i64 x.dot)])] w (Ret (fun v w' => v = behindV (behindG s.g x) ∧ Ext w w')) := by
  have hfp := hS.fp.le
  refine calls_xc (n := 22) (f := fun s_ => [(.pointer (some ⟨ba, 0, none⟩)), (.agg #[(.int .i64 x.p), (.int .i64 x.dot)])].getD s_ undef) Tryz.func95 rfl rfl (by simp) (fun s_ => by simp) ?_
  refine xc_seq ?_
  refine xc_region ?_
  refine xl_op (P := Tryz.prog) (some 3) rfl rfl (ox_box (v := (.agg #[(.int .i64 x.p), (.int .i64 x.dot)])) rfl ?_)
  intro w1 e1 z1 b1
  replace b1 : Blk w1 w.heap.size #[(.int .i64 x.p), (.int .i64 x.dot)] 42 := b1
  refine xl_op (P := Tryz.prog) (some 4) rfl rfl (ox_alloc tZ_32 ?_)
  intro w2 e2 z2 b2
  replace b2 : Blk w2 w1.heap.size #[(.int .i64 0), (.int .i64 0)] 32 := b2
  refine xl_op (P := Tryz.prog) (some 5) rfl rfl (ox_assign (v := (.bool false)) rfl ?_)
  refine xl_nil ?_
  refine xc_seq ?_
  refine xc_seq ?_
  refine xc_region ?_
  refine xl_op (P := Tryz.prog) (some 7) rfl rfl (ox_move (v := (.pointer (some ⟨ba, 0, none⟩))) rfl ?_)
  refine xl_op (P := Tryz.prog) (some 8) rfl rfl (ox_fieldAddr (b := w.heap.size) (o := 0) tF_42_0 rfl ?_)
  refine xl_op (P := Tryz.prog) (some 9) rfl rfl (ox_load (v := (.int .i64 x.p)) tA_3 rfl ((b1.ext e2).cell rfl) ?_)
  have x1 : Ext w w2 := (Ext.trans e1 e2)
  refine xl_op (P := Tryz.prog) (some 10) rfl rfl (ox_callE (al := [(.pointer (some ⟨ba, 0, none⟩)), (.int .i64 x.p)]) pf_127 rfl (ret_mono (right_calls s ba stA stn stc x.p w2 ((hb.ext e1).ext e2) (hS.ext x1) hx) ?_))
  rintro _ w3 ⟨A1, c1, rfl, hr1, e3⟩
  have he3 := e3.size
  refine xl_op (P := Tryz.prog) (some 6) rfl rfl (ox_assign (v := (.slice A1 ((rightG s.g x.p).length) c1)) rfl ?_)
  refine xl_nil ?_
  refine xc_seq ?_
  refine xc_region ?_
  refine xl_op (P := Tryz.prog) (some 11) rfl rfl (ox_fieldAddr (b := w.heap.size) (o := 0) tF_42_1 rfl ?_)
  refine xl_op (P := Tryz.prog) (some 12) rfl rfl (ox_load (v := (.int .i64 x.dot)) tA_3 rfl (((b1.ext e2).ext e3).cell rfl) ?_)
  refine xl_op (P := Tryz.prog) (some 13) rfl rfl (ox_move (v := (.slice A1 ((rightG s.g x.p).length) c1)) rfl ?_)
  refine xl_op (P := Tryz.prog) (some 14) rfl rfl (ox_len (A := A1) (n := ((rightG s.g x.p).length)) (cp := c1) rfl tU_33 rfl ?_)
  refine xl_op (P := Tryz.prog) (some 15) rfl rfl (ox_lss (k := .i64) (a := x.dot) (b := ((((rightG s.g x.p).length : Nat) : Int))) rfl rfl ?_)
  refine xl_nil ?_
  refine xc_if (p := (x.dot : Int) < ((((rightG s.g x.p).length : Nat) : Int))) rfl (fun h1 => ?_) (fun h1 => ?_)
  · skip
    refine xc_seq ?_
    refine xc_region ?_
    refine xl_op (P := Tryz.prog) (some 16) rfl rfl (ox_move (v := (.slice A1 ((rightG s.g x.p).length) c1)) rfl ?_)
    refine xl_op (P := Tryz.prog) (some 17) rfl rfl (ox_fieldAddr (b := w.heap.size) (o := 0) tF_42_1 rfl ?_)
    refine xl_op (P := Tryz.prog) (some 18) rfl rfl (ox_load (v := (.int .i64 x.dot)) tA_3 rfl (((b1.ext e2).ext e3).cell rfl) ?_)
    obtain ⟨x_1, g_1, o_1, hx_1⟩ := row_may (A := A1) (cs := Sym.cs) x.dot.toNat Sym.len (by decide) hr1
    obtain ⟨hx_2, hA_1, hc_1⟩ := hx_1 (by first | omega | (simp only [List.length_drop, List.length_replicate, List.length_set, List.length_append, List.length_map, List.length_singleton] at *; omega))
    refine xl_op (P := Tryz.prog) (some 19) rfl rfl (ox_ixA (b := g_1) (o := o_1) (i := x.dot) x.dot.toNat tE_33 hA_1 rfl rfl (by omega) (by omega) ?_)
    refine xl_op (P := Tryz.prog) (some 20) rfl rfl (ox_loadN (vs := [(.int .i64 x_1.kind), (.int .i64 x_1.n)]) tA_32 tS_32 rfl rfl hc_1 ?_)
    refine xl_op (P := Tryz.prog) none rfl rfl (ox_store (n := 2) (vs := [(.int .i64 x_1.kind), (.int .i64 x_1.n)]) tS_32 rfl (v := (.agg #[(.int .i64 x_1.kind), (.int .i64 x_1.n)])) rfl rfl rfl rfl (b2.ext e3) (Nat.le_of_ble_eq_true rfl) ?_)
    intro w4 e4 z3 b3
    replace b3 : Blk w4 w1.heap.size #[(.int .i64 x_1.kind), (.int .i64 x_1.n)] 32 := blk_full b3 rfl
    refine xl_op (P := Tryz.prog) (some 5) rfl rfl (ox_assign (v := (.bool true)) rfl ?_)
    refine xl_nil ?_
    refine xc_ret ?_
    change leaves _ _ _ _ _ _ _
    refine leaves_nil (n := 22) (rs := [.cell 4 32, .tmp 5]) (vs := [(.agg #[(.int .i64 x_1.kind), (.int .i64 x_1.n)]), (.bool true)]) rfl ⟨⟨by decide, w1.heap.size, 0, 2, [(.int .i64 x_1.kind), (.int .i64 x_1.n)], rfl, tA_32, tS_32, rfl, ⟨b3.cell rfl, b3.cell rfl, trivial⟩, rfl⟩, ⟨by decide, rfl⟩, trivial⟩ ?_
    have x2 : Ext w w4 := (Ext.chg1 (Ext.trans x1 e3) e4 (by omega))
    exact ⟨by rw [show behindG s.g x = some x_1 from hx_2]; rfl, x2⟩
  · skip
    refine xc_skip ?_
    refine xc_seq ?_
    refine xc_region ?_
    refine xl_op (P := Tryz.prog) (some 21) rfl rfl (ox_mkStruct (ps := []) (cs := #[(.int .i64 0), (.int .i64 0)]) tZ_32 tP_32 rfl (by kernel_rfl) ?_)
    refine xl_op (P := Tryz.prog) none rfl rfl (ox_store (n := 2) (vs := [(.int .i64 0), (.int .i64 0)]) tS_32 rfl (v := (.agg #[(.int .i64 0), (.int .i64 0)])) rfl rfl rfl rfl (b2.ext e3) (Nat.le_of_ble_eq_true rfl) ?_)
    intro w5 e5 z4 b4
    replace b4 : Blk w5 w1.heap.size #[(.int .i64 0), (.int .i64 0)] 32 := blk_full b4 rfl
    refine xl_op (P := Tryz.prog) (some 5) rfl rfl (ox_assign (v := (.bool false)) rfl ?_)
    refine xl_nil ?_
    refine xc_ret ?_
    change leaves _ _ _ _ _ _ _
    refine leaves_nil (n := 22) (rs := [.cell 4 32, .tmp 5]) (vs := [(.agg #[(.int .i64 0), (.int .i64 0)]), (.bool false)]) rfl ⟨⟨by decide, w1.heap.size, 0, 2, [(.int .i64 0), (.int .i64 0)], rfl, tA_32, tS_32, rfl, ⟨b4.cell rfl, b4.cell rfl, trivial⟩, rfl⟩, ⟨by decide, rfl⟩, trivial⟩ ?_
    have x3 : Ext w w5 := (Ext.chg1 (Ext.trans x1 e3) e5 (by omega))
    exact ⟨by rw [show behindG s.g x = none from List.getElem?_eq_none (by omega)]; rfl, x3⟩
end Go.Proofs.YtnnmdkglgnlenaaGreatDoor
set_option linter.unusedVariables false
set_option linter.unusedSimpArgs false
set_option maxRecDepth 100000
set_option maxHeartbeats 4000000
namespace Go.Proofs.YtnnmdkglgnlenaaGreatDoor
open Go Go.RowKit Go.Vx
section
variable {P : Program} {ρ : Operand → Value} {w : World} {K : Value → World → Prop} {dst : Option Tmp} {ty : TypeId} {pos : String} {af : Array Edge} {gd : Option (Nat × Bool)}
theorem ox_ixV {x ix : Operand} {t e : TypeId} {sz by_ : Nat} {z : Value} {b o n cp cp' k0 : Nat} {k : IntKind} {i : Int} {A : Option Addr} (i0 m : Nat) (ht : sliceT P t = some (e, sz, by_, z)) (hA : A = some ⟨b, o, none⟩) (hx : ρ x = .slice (sfA A cp k0 sz) n cp') (hc : cp ≠ k0) (hi : ρ ix = .int k i) (h0 : i = (i0 : Int)) (h1 : i0 < n) (hm : m = k0 + i0)
    (h : K (.pointer (some ⟨b, o + m * sz, none⟩)) w) : OpX P ⟨dst, .indexAddr t x ix, ty, pos, af, gd⟩ ρ w K := by
  subst hA; subst hm
  have hs : sfA (some ⟨b, o, none⟩) cp k0 sz = some ⟨b, o + k0 * sz, none⟩ := by simp [sfA, hc, Addr.add]
  rw [hs] at hx
  refine ox_ixA i0 ht rfl hx hi h0 h1 ?_
  rw [Nat.add_mul, ← Nat.add_assoc] at h
  exact h
theorem ox_clearV {α : Type} {c : Call} {x : Operand} {t e : TypeId} {sz by_ N cap k0 cp' : Nat} {z : Value} {A : Option Addr} {cs : α → List Value} {L : List α} {a0 : α} (hc : c = { callee := .builtin .clear, args := #[x], argTypes := #[t] }) (ht : sliceT P t = some (e, sz, by_, z))
    (hsz : 0 < sz) (hlen : ∀ a, (cs a).length = sz) (hone : ∀ a, (cs a).all Value.oneCell' = true) (hx : ρ x = .slice (sfA A cap k0 sz) (N - k0) cp') (hk : k0 ≤ N) (ho : Vx.Own w e sz (.slice A N cap) N (L.flatMap cs))
    (hz : (Builtin.zeroCells z.cells (N - k0)).toList = (List.replicate (N - k0) a0).flatMap cs)
    (h : ∀ w', Chg (fun b => (Value.slice A N cap).ownBlock = some b) w w' → w'.heap.size = w.heap.size → Vx.Own w' e sz (.slice A N cap) N ((L.take k0 ++ List.replicate (N - k0) a0).flatMap cs) → K (.tuple #[]) w') : OpX P ⟨dst, .call c, ty, pos, af, gd⟩ ρ w K := by
  subst hc
  obtain ⟨hu, i, hi, hz1, hs, hby⟩ := slice_of ht
  have hzo : zeroOf P e = some z := by unfold zeroOf; rw [hi]; exact hz1
  have hL : L.length = N := by
    have h1 := ho.len
    rw [fm_len hlen] at h1
    exact Nat.eq_of_mul_eq_mul_right hsz h1
  by_cases h0 : N - k0 = 0
  · refine ox_val (v := .tuple #[]) (w' := w) ?_ (h w (Chg.refl _ _) rfl (by rw [h0, List.take_of_length_le (by omega)]; simpa using ho))
    rw [h0] at hx
    cases hq : sfA A cap k0 sz <;> simp [execOp, resolve, invoke, builtin, Builtin.clear_, hx, hq, Sem.run_bind, Result.andThen, run_underlying hu]
  · obtain ⟨g, c', heq, hcc⟩ := ho.some_of (by omega)
    simp only [Value.slice.injEq, true_and] at heq
    obtain ⟨rfl, rfl⟩ := heq
    obtain ⟨cur, hb, hz2, hup⟩ := ho.toBlk
    have hs2 : sfA (some ⟨g, 0, none⟩) cap k0 sz = some ⟨g, k0 * sz, none⟩ := by
      have : cap ≠ k0 := by omega
      simp [sfA, this, Addr.add]
      exact fun h => h.symm
    rw [hs2] at hx
    have hfl : ((List.replicate (N - k0) a0).flatMap cs).length = (N - k0) * sz := by rw [fm_len hlen, List.length_replicate]
    have hmul : k0 * sz + (N - k0) * sz = N * sz := by rw [← Nat.add_mul]; congr 1; omega
    obtain ⟨w', hr', hch, hsz', hb'⟩ := Vx.run_storeCells (P := P) ((List.replicate (N - k0) a0).flatMap cs) (k0 * sz) 0 w cur hb (by omega) (fun u hu => List.all_eq_true.1 (fm_one hone _) u hu)
    have ho' := hup ((List.replicate (N - k0) a0).flatMap cs) (k0 * sz) w' (by omega) hb'
    have hset : setL (L.flatMap cs) (k0 * sz) ((List.replicate (N - k0) a0).flatMap cs) = (L.take k0 ++ List.replicate (N - k0) a0).flatMap cs := by
      have h1 := setL_app ((List.replicate (N - k0) a0).flatMap cs) ((L.drop k0).flatMap cs) [] ((L.take k0).flatMap cs) (by rw [hfl, fm_len hlen, List.length_drop, hL])
      rw [List.append_nil, List.append_nil, ← List.flatMap_append, List.take_append_drop, fm_len hlen, List.length_take, hL, Nat.min_eq_left hk] at h1
      rw [h1, List.flatMap_append]
    rw [hset] at ho'
    refine ox_val (v := .tuple #[]) (w' := w') ?_ (h w' (hch.mono fun b _ hb => by cases hb; rfl) hsz' ho')
    rw [← hz] at hr'
    cases hn : N - k0 with
    | zero => exact absurd hn h0
    | succ m =>
      rw [hn] at hx hr'
      simp [execOp, resolve, invoke, builtin, Builtin.clear_, hx, Sem.run_bind, Result.andThen, run_underlying hu, run_zero hzo, hr']
end
def cmpP (p : Sym) : List Sym → List Sym
  | [] => []
  | x :: r => if x = p then cmpP p r else x :: cmpP x r
def compL : List Sym → List Sym
  | [] => []
  | x :: r => x :: cmpP x r
theorem bangS {l : List Sym} {i : Nat} {x : Sym} (h : l[i]? = some x) : l[i]! = x := by rw [List.getElem!_eq_getElem?_getD, h]; rfl
theorem compL_start {l : List Sym} (h : 1 ≤ l.length) : compL l = l.take (1 : Int).toNat ++ cmpP (l[(1 : Int).toNat - 1]!) (l.drop (1 : Int).toNat) := by
  cases l with
  | nil => simp at h
  | cons a l => rfl
theorem compL_short {l : List Sym} (h : l.length < 2) : compL l = l := by
  cases l with
  | nil => rfl
  | cons a l => cases l with
    | nil => rfl
    | cons b l => simp only [List.length_cons] at h; omega
theorem cmpP_keep {l : List Sym} {k k' : Int} {x y : Sym} (h1 : 1 ≤ k) (hx : l[k.toNat]? = some x) (hy : l[k.toNat - 1]? = some y) (hne : x ≠ y) (hk : k' = k + 1) : l.take k.toNat ++ cmpP (l[k.toNat - 1]!) (l.drop k.toNat) = l.take k'.toNat ++ cmpP (l[k'.toNat - 1]!) (l.drop k'.toNat) := by
  subst hk
  have e1 : (k + 1).toNat = k.toNat + 1 := by omega
  rw [e1, Nat.add_sub_cancel, bangS hy, bangS hx, drop_get hx, cmpP, if_neg hne, List.take_add_one, hx]; simp
theorem cmpP_first {l : List Sym} {k : Int} {x y : Sym} (h1 : 1 ≤ k) (hx : l[k.toNat]? = some x) (hy : l[k.toNat - 1]? = some y) (he : x = y) : l.take k.toNat ++ cmpP (l[k.toNat - 1]!) (l.drop k.toNat) = l.take k.toNat ++ cmpP (l[(k + 1 - 1).toNat]!) (l.drop (k + 1).toNat) := by
  have e1 : (k + 1).toNat = k.toNat + 1 := by omega
  have e2 : (k + 1 - 1).toNat = k.toNat := by omega
  rw [e1, e2, bangS hy, bangS hx, drop_get hx, cmpP, if_pos he, he]
theorem compL_all {l : List Sym} {k : Int} (hq : compL l = l.take k.toNat ++ cmpP (l[k.toNat - 1]!) (l.drop k.toNat)) (h : (l.length : Int) ≤ k) : compL l = l := by
  rw [hq, List.take_of_length_le (by omega), List.drop_of_length_le (by omega), cmpP, List.append_nil]
theorem compL_end {l M : List Sym} {q k j : Int} (hq : compL l = M.take q.toNat ++ cmpP (M[(k + j - 1).toNat]!) (l.drop (k + j).toNat)) (h : (l.length : Int) ≤ k + j) : compL l = M.take q.toNat := by
  rw [hq, List.drop_of_length_le (by omega), cmpP, List.append_nil]
theorem compL_len {l M : List Sym} {q k j : Int} (hq : compL l = M.take q.toNat ++ cmpP (M[(k + j - 1).toNat]!) (l.drop (k + j).toNat)) (h : (l.length : Int) ≤ k + j) (hl : q.toNat ≤ M.length) : (compL l).length = q.toNat := by
  rw [compL_end hq h, List.length_take, Nat.min_eq_left hl]
theorem cmpP_drop0 {l M : List Sym} {k j : Int} (hd : M.drop (k + j - 1).toNat = l.drop (k + j - 1).toNat) (h : 1 ≤ k + j) : M.drop (k + (j + 1) - 1).toNat = l.drop (k + (j + 1) - 1).toNat := by
  have e : (k + (j + 1) - 1).toNat = (k + j - 1).toNat + 1 := by omega
  rw [e, ← List.drop_drop, ← List.drop_drop, hd]
theorem cmpP_drop {l M : List Sym} {q k j : Int} {x : Sym} (hd : M.drop (k + j - 1).toNat = l.drop (k + j - 1).toNat) (h : 1 ≤ k + j) (hq : q ≤ k + j - 1 ∧ 0 ≤ q) : (M.set q.toNat x).drop (k + (j + 1) - 1).toNat = l.drop (k + (j + 1) - 1).toNat := by
  rw [List.drop_set_of_lt (by omega)]; exact cmpP_drop0 hd h
theorem drop_at {l M : List Sym} {a b : Nat} (hd : M.drop a = l.drop a) (h : a ≤ b) : M[b]? = l[b]? := by
  have h1 : (M.drop a)[b - a]? = (l.drop a)[b - a]? := by rw [hd]
  rw [List.getElem?_drop, List.getElem?_drop, show a + (b - a) = b by omega] at h1; exact h1
theorem cmpP_skip {l M : List Sym} {q k j : Int} {x y : Sym} (h1 : 1 ≤ k + j) (h2 : 1 ≤ j) (hd : M.drop (k + j - 1).toNat = l.drop (k + j - 1).toNat) (hx : M[(k + j).toNat]? = some x) (hy : M[(k + j - 1).toNat]? = some y) (he : x = y) (h3 : 0 ≤ k) : M.take q.toNat ++ cmpP (M[(k + j - 1).toNat]!) (l.drop (k + j).toNat) = M.take q.toNat ++ cmpP (M[(k + (j + 1) - 1).toNat]!) (l.drop (k + (j + 1)).toNat) := by
  have hx' : l[(k + j).toNat]? = some x := by rw [← drop_at hd (by omega)]; exact hx
  rw [show (k + (j + 1) - 1).toNat = (k + j).toNat by omega, show (k + (j + 1)).toNat = (k + j).toNat + 1 by omega, bangS hx, bangS hy, drop_get hx', cmpP, if_pos he, he]
theorem cmpP_put {l M : List Sym} {q k j : Int} {x y : Sym} (h1 : 1 ≤ q) (h2 : 1 ≤ j) (h3 : q ≤ k + j - 1) (hd : M.drop (k + j - 1).toNat = l.drop (k + j - 1).toNat) (hx : M[(k + j).toNat]? = some x) (hy : M[(k + j - 1).toNat]? = some y) (hne : x ≠ y) (h4 : 0 ≤ k) (h5 : q.toNat < M.length) : M.take q.toNat ++ cmpP (M[(k + j - 1).toNat]!) (l.drop (k + j).toNat) = (M.set q.toNat x).take (q + 1).toNat ++ cmpP ((M.set q.toNat x)[(k + (j + 1) - 1).toNat]!) (l.drop (k + (j + 1)).toNat) := by
  have hx' : l[(k + j).toNat]? = some x := by rw [← drop_at hd (by omega)]; exact hx
  have hx2 : (M.set q.toNat x)[(k + j).toNat]? = some x := by rw [List.getElem?_set_ne (by omega)]; exact hx
  rw [show (k + (j + 1) - 1).toNat = (k + j).toNat by omega, show (k + (j + 1)).toNat = (k + j).toNat + 1 by omega, show (q + 1).toNat = q.toNat + 1 by omega, bangS hx2, bangS hy, drop_get hx', cmpP, if_neg hne, List.take_add_one, List.getElem?_set_self h5, List.take_set_of_le (Nat.le_refl _)]; simp
theorem Own.takeD {α : Type} {w : World} {e k n c m : Nat} {A : Option Addr} {cs : α → List Value} {l : List α} (hk : ∀ a, (cs a).length = k) (h0 : 0 < k) (h : Vx.Own w e k (.slice A n c) n (l.flatMap cs)) (hm : m ≤ n) : Vx.Own w e k (.slice A m c) m ((l.take m).flatMap cs) := by
  have hl : l.length = n := by
    have h1 := h.len
    rw [fm_len hk] at h1
    exact Nat.eq_of_mul_eq_mul_right h0 h1
  have h1 : l.flatMap cs = (l.take m).flatMap cs ++ (l.drop m).flatMap cs := by rw [← List.flatMap_append, List.take_append_drop]
  have h2 := Vx.Own.take h hm
  rw [h1] at h2
  have h3 : ((l.take m).flatMap cs).length = m * k := by rw [fm_len hk, List.length_take, Nat.min_eq_left (by omega)]
  rw [← h3, List.take_left] at h2
  exact h2
theorem fS_32 : flatS Tryz.prog 32 [.int .i64, .int .i64] = true := by kernel_rfl
theorem compact_calls (l : List Sym) (A : Option Addr) (c : Nat) (w : World) (hO : Vx.Own w 32 2 (.slice A l.length c) l.length (l.flatMap Sym.cs)) (hc : l.length ≤ c) (hn : l.length ≤ 8796093022208) :
    Calls Tryz.prog 101 #[(.slice A l.length c)] w (Ret (fun v w' => ∃ c', v = .slice A (compL l).length c' ∧ Vx.Own w' 32 2 (.slice A (compL l).length c') (compL l).length ((compL l).flatMap Sym.cs) ∧ Chg (fun b => (Value.slice A l.length c).ownBlock = some b) w w')) := by
  refine calls_xc (n := 61) (f := fun s_ => [(.slice A l.length c)].getD s_ undef) Tryz.func101 rfl rfl (by simp) (fun s_ => by simp) ?_
  refine xc_seq ?_
  refine xc_region ?_
  refine xl_op (P := Tryz.prog) (some 2) rfl rfl (ox_assign (v := (.slice none 0 0)) rfl ?_)
  refine xl_nil ?_
  refine xc_seq ?_
  refine xc_seq ?_
  refine xc_region ?_
  refine xl_op (P := Tryz.prog) (some 6) rfl rfl (ox_move (v := (.slice A l.length c)) rfl ?_)
  refine xl_op (P := Tryz.prog) (some 7) rfl rfl (ox_len (A := A) (n := l.length) (cp := c) rfl tU_33 rfl ?_)
  refine xl_op (P := Tryz.prog) (some 8) rfl rfl (ox_lss (k := .i64) (a := (((l.length : Nat) : Int))) (b := 2) rfl rfl ?_)
  refine xl_nil ?_
  refine xc_if (p := (((l.length : Nat) : Int) : Int) < 2) rfl (fun h1 => ?_) (fun h1 => ?_)
  · skip
    refine xc_seq ?_
    refine xc_region ?_
    refine xl_op (P := Tryz.prog) (some 9) rfl rfl (ox_move (v := (.slice A l.length c)) rfl ?_)
    refine xl_op (P := Tryz.prog) (some 2) rfl rfl (ox_assign (v := (.slice A l.length c)) rfl ?_)
    refine xl_nil ?_
    refine xc_ret ?_
    change leaves _ _ _ _ _ _ _
    refine leaves_nil (n := 61) (rs := [.tmp 2]) (vs := [(.slice A l.length c)]) rfl ⟨⟨by decide, rfl⟩, trivial⟩ ?_
    have y1 : Chg (fun b => ((.slice A l.length c) : Value).ownBlock = some b) w w := (Chg.refl (fun b => ((.slice A l.length c) : Value).ownBlock = some b) w)
    exact ⟨_, by rw [compL_short (by omega)]; rfl, by rw [compL_short (by omega)]; exact hO, y1⟩
  · skip
    refine xc_skip ?_
    refine xc_seq ?_
    refine xc_seq ?_
    refine xc_region ?_
    refine xl_op (P := Tryz.prog) (some 3) rfl rfl (ox_assign (v := (.int .i64 1)) rfl ?_)
    refine xl_nil ?_
    refine xc_block ?_
    refine xc_loopN (fun m_ f_ Wx => ∃ (k : Int), m_ = l.length - k.toNat ∧ (1 ≤ k ∧ k ≤ (l.length : Int)) ∧ (compL l = l.take k.toNat ++ cmpP (l[k.toNat - 1]!) (l.drop k.toNat)) ∧ f_ 0 = (.slice A l.length c) ∧ f_ 3 = (.int .i64 k) ∧ Ext w Wx) (l.length - 1) ?_ ?_
    · exact ⟨1, (by omega), (by omega), (compL_start (by omega)), rfl, (by first | exact rfl | exact (congrArg (Value.int .i64) (by omega))), (Chg.refl _ _)⟩
    · rintro m_ f1 w1 ⟨k, hm_f1, hk, hq, g0_f1, g3_f1, x1⟩
      have hx1 := x1.size
      refine xc_seq ?_
      refine xc_seq ?_
      refine xc_region ?_
      refine xl_op (P := Tryz.prog) (some 10) rfl rfl (ox_move (v := (.int .i64 k)) g3_f1 ?_)
      refine xl_op (P := Tryz.prog) (some 11) rfl rfl (ox_move (v := (.slice A l.length c)) g0_f1 ?_)
      refine xl_op (P := Tryz.prog) (some 12) rfl rfl (ox_len (A := A) (n := l.length) (cp := c) rfl tU_33 rfl ?_)
      refine xl_op (P := Tryz.prog) (some 13) rfl rfl (ox_lss (k := .i64) (a := k) (b := (((l.length : Nat) : Int))) rfl rfl ?_)
      refine xl_nil ?_
      refine xc_if (p := (k : Int) < (((l.length : Nat) : Int))) rfl (fun h2 => ?_) (fun h2 => ?_)
      · skip
        refine xc_skip ?_
        refine xc_seq ?_
        refine xc_block ?_
        refine xc_seq ?_
        refine xc_regionE [] (fun W_ => Chg (fun _ => False) w1 W_) hmix ?_
        intro w2 e1 z1
        have hS1 : Chg (fun _ => False) w1 w2 := Ext.to e1
        refine xd_pure 0 (some 16) rfl rfl (by kernel_rfl) (v := (.slice A l.length c)) (.inl ⟨rfl, fun W_ hW_ => ox_move (v := (.slice A l.length c)) g0_f1 ⟨rfl, rfl⟩⟩) ?_
        refine xd_pure 1 (some 17) rfl rfl (by kernel_rfl) (v := (.int .i64 k)) (.inl ⟨rfl, fun W_ hW_ => ox_move (v := (.int .i64 k)) g3_f1 ⟨rfl, rfl⟩⟩) ?_
        obtain ⟨x_1, g_1, hx_1⟩ := own_may (A := A) k.toNat Sym.len (by decide) (hO.ext x1)
        obtain ⟨hx_2, hA_1, hc_1⟩ := hx_1 (by first | omega | (simp only [List.length_drop, List.length_replicate, List.length_set, List.length_append, List.length_map, List.length_singleton] at *; omega))
        refine xd_pure 2 (some 18) rfl rfl (by kernel_rfl) (v := (.pointer (some ⟨g_1, 0 + k.toNat * 2, none⟩))) (.inl ⟨rfl, fun W_ hW_ => ox_ixA (b := g_1) (o := 0) (i := k) k.toNat tE_33 hA_1 rfl rfl (by omega) (by omega) ⟨rfl, rfl⟩⟩) ?_
        refine xd_take 3 (some 19) rfl rfl (by kernel_rfl) (v := (.agg #[(.int .i64 x_1.kind), (.int .i64 x_1.n)])) (.inl ⟨rfl, fun W_ hW_ => ox_loadN (vs := [(.int .i64 x_1.kind), (.int .i64 x_1.n)]) tA_32 tS_32 rfl rfl (CellsL.keep hW_ not_false hc_1) ⟨rfl, rfl⟩⟩) hS1 ?_
        refine xd_pure 4 (some 20) rfl rfl (by kernel_rfl) (v := (.slice A l.length c)) (.inl ⟨rfl, fun W_ hW_ => ox_move (v := (.slice A l.length c)) g0_f1 ⟨rfl, rfl⟩⟩) ?_
        refine xd_pure 5 (some 21) rfl rfl (by kernel_rfl) (v := (.int .i64 k)) (.inl ⟨rfl, fun W_ hW_ => ox_move (v := (.int .i64 k)) g3_f1 ⟨rfl, rfl⟩⟩) ?_
        refine xd_pure 6 (some 22) rfl rfl (by kernel_rfl) (v := (.int .i64 (k - 1))) (.inl ⟨rfl, fun W_ hW_ => ox_sub64 (a := k) (b := 1) rfl rfl (by omega) ⟨rfl, rfl⟩⟩) ?_
        obtain ⟨x_2, g_2, hx_3⟩ := own_may (A := A) ((k - 1).toNat) Sym.len (by decide) (hO.ext x1)
        obtain ⟨hx_4, hA_2, hc_2⟩ := hx_3 (by first | omega | (simp only [List.length_drop, List.length_replicate, List.length_set, List.length_append, List.length_map, List.length_singleton] at *; omega))
        refine xd_pure 7 (some 23) rfl rfl (by kernel_rfl) (v := (.pointer (some ⟨g_2, 0 + ((k - 1).toNat) * 2, none⟩))) (.inl ⟨rfl, fun W_ hW_ => ox_ixA (b := g_2) (o := 0) (i := (k - 1)) ((k - 1).toNat) tE_33 hA_2 rfl rfl (by omega) (by omega) ⟨rfl, rfl⟩⟩) ?_
        refine xd_take 8 (some 24) rfl rfl (by kernel_rfl) (v := (.agg #[(.int .i64 x_2.kind), (.int .i64 x_2.n)])) (.inl ⟨rfl, fun W_ hW_ => ox_loadN (vs := [(.int .i64 x_2.kind), (.int .i64 x_2.n)]) tA_32 tS_32 rfl rfl (CellsL.keep hW_ not_false hc_2) ⟨rfl, rfl⟩⟩) hS1 ?_
        refine xd_pure 9 (some 25) rfl rfl (by kernel_rfl) (v := (.bool (decide (((x_1.kind : Int) = x_2.kind ∧ (x_1.n : Int) = x_2.n))))) (.inl ⟨rfl, fun W_ hW_ => ox_eqlF (xs := [(.int .i64 x_1.kind), (.int .i64 x_1.n)]) (ys := [(.int .i64 x_2.kind), (.int .i64 x_2.n)]) (p := ((x_1.kind : Int) = x_2.kind ∧ (x_1.n : Int) = x_2.n)) fS_32 rfl rfl rfl rfl (by simp) ⟨rfl, rfl⟩⟩) ?_
        refine xd_done (by kernel_rfl) ?_ _
        refine xc_if (p := ((x_1.kind : Int) = x_2.kind ∧ (x_1.n : Int) = x_2.n)) rfl (fun h3 => ?_) (fun h3 => ?_)
        · skip
          refine xc_seq ?_
          refine xc_region ?_
          refine xl_op (P := Tryz.prog) (some 26) rfl rfl (ox_move (v := (.slice A l.length c)) g0_f1 ?_)
          refine xl_op (P := Tryz.prog) (some 27) rfl rfl (ox_move (v := (.int .i64 k)) g3_f1 ?_)
          refine xl_op (P := Tryz.prog) (some 28) rfl rfl (ox_sliceFromV (A := A) (n := l.length) (cp := c) (i := k) k.toNat tE_33 rfl rfl (by omega) (by omega) ?_)
          refine xl_op (P := Tryz.prog) (some 4) rfl rfl (ox_assign (v := (.slice ((sfA A c k.toNat 2)) ((l.length - k.toNat)) ((c - k.toNat)))) rfl ?_)
          refine xl_nil ?_
          refine xc_seq ?_
          refine xc_seq ?_
          refine xc_region ?_
          refine xl_op (P := Tryz.prog) (some 5) rfl rfl (ox_assign (v := (.int .i64 1)) rfl ?_)
          refine xl_nil ?_
          refine xc_block ?_
          have hsame : x_1 = x_2 := by have _h := h3; cases x_1; cases x_2; simp_all
          refine xc_loopN (fun m_ f_ Wx => ∃ (q : Int) (j : Int) (M : List Sym), m_ = l.length - (k + j).toNat ∧ (1 ≤ j ∧ k + j ≤ (l.length : Int)) ∧ (1 ≤ q ∧ q ≤ k + j - 1) ∧ (compL l = M.take q.toNat ++ cmpP (M[(k + j - 1).toNat]!) (l.drop (k + j).toNat)) ∧ (M.drop (k + j - 1).toNat = l.drop (k + j - 1).toNat) ∧ f_ 0 = (.slice A l.length c) ∧ f_ 10 = (.int .i64 k) ∧ f_ 11 = (.slice A l.length c) ∧ f_ 12 = (.int .i64 (((l.length : Nat) : Int))) ∧ f_ 13 = (.bool (decide ((k : Int) < (((l.length : Nat) : Int))))) ∧ f_ 16 = (.slice A l.length c) ∧ f_ 17 = (.int .i64 k) ∧ f_ 18 = (.pointer (some ⟨g_1, 0 + k.toNat * 2, none⟩)) ∧ f_ 19 = (.agg #[(.int .i64 x_1.kind), (.int .i64 x_1.n)]) ∧ f_ 20 = (.slice A l.length c) ∧ f_ 21 = (.int .i64 k) ∧ f_ 22 = (.int .i64 (k - 1)) ∧ f_ 23 = (.pointer (some ⟨g_2, 0 + ((k - 1).toNat) * 2, none⟩)) ∧ f_ 24 = (.agg #[(.int .i64 x_2.kind), (.int .i64 x_2.n)]) ∧ f_ 25 = (.bool (decide (((x_1.kind : Int) = x_2.kind ∧ (x_1.n : Int) = x_2.n)))) ∧ f_ 26 = (.slice A l.length c) ∧ f_ 27 = (.int .i64 k) ∧ f_ 28 = (.slice ((sfA A c k.toNat 2)) ((l.length - k.toNat)) ((c - k.toNat))) ∧ f_ 4 = (.slice ((sfA A c k.toNat 2)) ((l.length - k.toNat)) ((c - k.toNat))) ∧ f_ 3 = (.int .i64 q) ∧ f_ 5 = (.int .i64 j) ∧ Vx.Own Wx 32 2 (.slice A l.length c) l.length (M.flatMap Sym.cs) ∧ Chg (fun b => ((.slice A l.length c) : Value).ownBlock = some b) w2 Wx) (l.length - (k + 1).toNat) ?_ ?_
          · exact ⟨k, 1, l, (by omega), (by omega), (by omega), (hq.trans (cmpP_first (by omega) hx_2 (show l[k.toNat - 1]? = some x_2 by rw [show k.toNat - 1 = (k - 1).toNat by omega]; exact hx_4) hsame)), rfl, g0_f1, rfl, rfl, rfl, rfl, rfl, rfl, rfl, rfl, rfl, rfl, rfl, rfl, rfl, rfl, rfl, rfl, rfl, rfl, (by first | exact g3_f1 | exact g3_f1.trans (congrArg (Value.int .i64) (by omega))), (by first | exact rfl | exact (congrArg (Value.int .i64) (by omega))), ((hO.ext x1).ext e1), (Chg.refl _ _)⟩
          · rintro m_ f2 w3 ⟨q, j, M, hm_f2, hj, hkq, hq1, hd1, g0_f2, g10_f2, g11_f2, g12_f2, g13_f2, g16_f2, g17_f2, g18_f2, g19_f2, g20_f2, g21_f2, g22_f2, g23_f2, g24_f2, g25_f2, g26_f2, g27_f2, g28_f2, g4_f2, g3_f2, g5_f2, o0_f2, x2⟩
            have hx2 := x2.size
            have hl_M : M.length = l.length := by have _q := (o0_f2).len; rw [fm_len Sym.len] at _q; omega
            refine xc_seq ?_
            refine xc_seq ?_
            refine xc_region ?_
            refine xl_op (P := Tryz.prog) (some 29) rfl rfl (ox_move (v := (.int .i64 j)) g5_f2 ?_)
            refine xl_op (P := Tryz.prog) (some 30) rfl rfl (ox_move (v := (.slice ((sfA A c k.toNat 2)) ((l.length - k.toNat)) ((c - k.toNat)))) g4_f2 ?_)
            refine xl_op (P := Tryz.prog) (some 31) rfl rfl (ox_len (A := ((sfA A c k.toNat 2))) (n := ((l.length - k.toNat))) (cp := ((c - k.toNat))) rfl tU_33 rfl ?_)
            refine xl_op (P := Tryz.prog) (some 32) rfl rfl (ox_lss (k := .i64) (a := j) (b := ((((l.length - k.toNat) : Nat) : Int))) rfl rfl ?_)
            refine xl_nil ?_
            refine xc_if (p := (j : Int) < ((((l.length - k.toNat) : Nat) : Int))) rfl (fun h4 => ?_) (fun h4 => ?_)
            · skip
              refine xc_skip ?_
              refine xc_seq ?_
              refine xc_block ?_
              refine xc_seq ?_
              refine xc_regionE [] (fun W_ => Chg (fun _ => False) w3 W_) hmix ?_
              intro w4 e2 z2
              have hS2 : Chg (fun _ => False) w3 w4 := Ext.to e2
              refine xd_pure 0 (some 35) rfl rfl (by kernel_rfl) (v := (.slice ((sfA A c k.toNat 2)) ((l.length - k.toNat)) ((c - k.toNat)))) (.inl ⟨rfl, fun W_ hW_ => ox_move (v := (.slice ((sfA A c k.toNat 2)) ((l.length - k.toNat)) ((c - k.toNat)))) g4_f2 ⟨rfl, rfl⟩⟩) ?_
              refine xd_pure 1 (some 36) rfl rfl (by kernel_rfl) (v := (.int .i64 j)) (.inl ⟨rfl, fun W_ hW_ => ox_move (v := (.int .i64 j)) g5_f2 ⟨rfl, rfl⟩⟩) ?_
              obtain ⟨x_3, g_3, hx_5⟩ := own_may (A := A) ((k + j).toNat) Sym.len (by decide) o0_f2
              obtain ⟨hx_6, hA_3, hc_3⟩ := hx_5 (by first | omega | (simp only [List.length_drop, List.length_replicate, List.length_set, List.length_append, List.length_map, List.length_singleton] at *; omega))
              refine xd_pure 2 (some 37) rfl rfl (by kernel_rfl) (v := (.pointer (some ⟨g_3, 0 + ((k + j).toNat) * 2, none⟩))) (.inl ⟨rfl, fun W_ hW_ => ox_ixV (b := g_3) (o := 0) (i := j) (k0 := k.toNat) j.toNat ((k + j).toNat) tE_33 hA_3 rfl (by omega) rfl (by omega) (by omega) (by omega) ⟨rfl, rfl⟩⟩) ?_
              refine xd_take 3 (some 38) rfl rfl (by kernel_rfl) (v := (.agg #[(.int .i64 x_3.kind), (.int .i64 x_3.n)])) (.inl ⟨rfl, fun W_ hW_ => ox_loadN (vs := [(.int .i64 x_3.kind), (.int .i64 x_3.n)]) tA_32 tS_32 rfl rfl (CellsL.keep hW_ not_false hc_3) ⟨rfl, rfl⟩⟩) hS2 ?_
              refine xd_pure 4 (some 39) rfl rfl (by kernel_rfl) (v := (.slice ((sfA A c k.toNat 2)) ((l.length - k.toNat)) ((c - k.toNat)))) (.inl ⟨rfl, fun W_ hW_ => ox_move (v := (.slice ((sfA A c k.toNat 2)) ((l.length - k.toNat)) ((c - k.toNat)))) g4_f2 ⟨rfl, rfl⟩⟩) ?_
              refine xd_pure 5 (some 40) rfl rfl (by kernel_rfl) (v := (.int .i64 j)) (.inl ⟨rfl, fun W_ hW_ => ox_move (v := (.int .i64 j)) g5_f2 ⟨rfl, rfl⟩⟩) ?_
              refine xd_pure 6 (some 41) rfl rfl (by kernel_rfl) (v := (.int .i64 (j - 1))) (.inl ⟨rfl, fun W_ hW_ => ox_sub64 (a := j) (b := 1) rfl rfl (by omega) ⟨rfl, rfl⟩⟩) ?_
              obtain ⟨x_4, g_4, hx_7⟩ := own_may (A := A) ((k + j - 1).toNat) Sym.len (by decide) o0_f2
              obtain ⟨hx_8, hA_4, hc_4⟩ := hx_7 (by first | omega | (simp only [List.length_drop, List.length_replicate, List.length_set, List.length_append, List.length_map, List.length_singleton] at *; omega))
              refine xd_pure 7 (some 42) rfl rfl (by kernel_rfl) (v := (.pointer (some ⟨g_4, 0 + ((k + j - 1).toNat) * 2, none⟩))) (.inl ⟨rfl, fun W_ hW_ => ox_ixV (b := g_4) (o := 0) (i := (j - 1)) (k0 := k.toNat) ((j - 1).toNat) ((k + j - 1).toNat) tE_33 hA_4 rfl (by omega) rfl (by omega) (by omega) (by omega) ⟨rfl, rfl⟩⟩) ?_
              refine xd_take 8 (some 43) rfl rfl (by kernel_rfl) (v := (.agg #[(.int .i64 x_4.kind), (.int .i64 x_4.n)])) (.inl ⟨rfl, fun W_ hW_ => ox_loadN (vs := [(.int .i64 x_4.kind), (.int .i64 x_4.n)]) tA_32 tS_32 rfl rfl (CellsL.keep hW_ not_false hc_4) ⟨rfl, rfl⟩⟩) hS2 ?_
              refine xd_pure 9 (some 44) rfl rfl (by kernel_rfl) (v := (.bool (!decide (((x_3.kind : Int) = x_4.kind ∧ (x_3.n : Int) = x_4.n))))) (.inl ⟨rfl, fun W_ hW_ => ox_neqF (xs := [(.int .i64 x_3.kind), (.int .i64 x_3.n)]) (ys := [(.int .i64 x_4.kind), (.int .i64 x_4.n)]) (p := ((x_3.kind : Int) = x_4.kind ∧ (x_3.n : Int) = x_4.n)) fS_32 rfl rfl rfl rfl (by simp) ⟨rfl, rfl⟩⟩) ?_
              refine xd_done (by kernel_rfl) ?_ _
              refine xc_cond (b := (!decide (((x_3.kind : Int) = x_4.kind ∧ (x_3.n : Int) = x_4.n)))) rfl (fun h5 => ?_) (fun h5 => ?_)
              · skip
                have h5' := h5
                try simp only [Bool.or_eq_true, Bool.and_eq_true, decide_eq_true_eq, Bool.or_eq_false_iff, Bool.and_eq_false_iff, decide_eq_false_iff_not, Bool.not_eq_true', Bool.not_eq_false'] at h5'
                refine xc_seq ?_
                refine xc_region ?_
                refine xl_op (P := Tryz.prog) (some 45) rfl rfl (ox_move (v := (.slice A l.length c)) g0_f2 ?_)
                refine xl_op (P := Tryz.prog) (some 46) rfl rfl (ox_move (v := (.int .i64 q)) g3_f2 ?_)
                refine xl_op (P := Tryz.prog) (some 47) rfl rfl (ox_move (v := (.slice ((sfA A c k.toNat 2)) ((l.length - k.toNat)) ((c - k.toNat)))) g4_f2 ?_)
                refine xl_op (P := Tryz.prog) (some 48) rfl rfl (ox_move (v := (.int .i64 j)) g5_f2 ?_)
                refine xl_op (P := Tryz.prog) (some 49) rfl rfl (ox_ixV (b := g_3) (o := 0) (i := j) (k0 := k.toNat) j.toNat ((k + j).toNat) tE_33 hA_3 rfl (by omega) rfl (by omega) (by omega) (by omega) ?_)
                refine xl_op (P := Tryz.prog) (some 50) rfl rfl (ox_loadN (vs := [(.int .i64 x_3.kind), (.int .i64 x_3.n)]) tA_32 tS_32 rfl rfl (CellsL.keep e2 not_false hc_3) ?_)
                obtain ⟨x_5, g_5, hx_9⟩ := own_may (A := A) q.toNat Sym.len (by decide) (o0_f2.ext e2)
                obtain ⟨hx_10, hA_5, hc_5⟩ := hx_9 (by first | omega | (simp only [List.length_drop, List.length_replicate, List.length_set, List.length_append, List.length_map, List.length_singleton] at *; omega))
                refine xl_op (P := Tryz.prog) (some 51) rfl rfl (ox_ixA (b := g_5) (o := 0) (i := q) q.toNat tE_33 hA_5 rfl rfl (by omega) (by omega) ?_)
                refine xl_op (P := Tryz.prog) none rfl rfl (ox_stE (i := q.toNat) (off := 0) (vs := [(.int .i64 x_3.kind), (.int .i64 x_3.n)]) (b := ((⟨x_3.kind, x_3.n⟩ : Sym) : Sym)) Sym.len tS_32 hA_5 rfl (v := (.agg #[(.int .i64 x_3.kind), (.int .i64 x_3.n)])) rfl rfl rfl rfl (o0_f2.ext e2) hx_10 rfl (by decide) (by omega) ?_)
                intro w5 e3 z3 o1
                refine xl_nil ?_
                refine xc_region ?_
                refine xl_op (P := Tryz.prog) (some 52) rfl rfl (ox_move (v := (.int .i64 q)) g3_f2 ?_)
                refine xl_op (P := Tryz.prog) (some 53) rfl rfl (ox_add64 (a := q) (b := 1) rfl rfl (by omega) ?_)
                refine xl_op (P := Tryz.prog) (some 3) rfl rfl (ox_assign (v := (.int .i64 (q + 1))) rfl ?_)
                refine xl_nil ?_
                refine xc_region ?_
                refine xl_op (P := Tryz.prog) (some 33) rfl rfl (ox_move (v := (.int .i64 j)) g5_f2 ?_)
                refine xl_op (P := Tryz.prog) (some 34) rfl rfl (ox_add64 (a := j) (b := 1) rfl rfl (by omega) ?_)
                refine xl_op (P := Tryz.prog) (some 5) rfl rfl (ox_assign (v := (.int .i64 (j + 1))) rfl ?_)
                refine xl_nil ?_
                have y2 : Chg (fun b => ((.slice A l.length c) : Value).ownBlock = some b) w2 w5 := (Chg.trans (Chg.ext (Chg.trans (Chg.refl (fun b => ((.slice A l.length c) : Value).ownBlock = some b) w2) x2 (fun b hb hl => hb)) e2) e3 (fun b hb hl => hb))
                exact ⟨rfl, l.length - (k + (j + 1)).toNat, by omega, (q + 1), (j + 1), (M.set q.toNat ((⟨x_3.kind, x_3.n⟩ : Sym))), by omega, (by omega), (by omega), (hq1.trans (cmpP_put (x := x_3) (y := x_4) (by omega) (by omega) (by omega) hd1 hx_6 hx_8 (fun hh => by have _h := h5; rw [hh] at _h; simp at _h) (by omega) (by omega))), (cmpP_drop hd1 (by omega) (by omega)), g0_f2, g10_f2, g11_f2, g12_f2, g13_f2, g16_f2, g17_f2, g18_f2, g19_f2, g20_f2, g21_f2, g22_f2, g23_f2, g24_f2, g25_f2, g26_f2, g27_f2, g28_f2, g4_f2, (by first | exact rfl | exact (congrArg (Value.int .i64) (by omega))), (by first | exact rfl | exact (congrArg (Value.int .i64) (by omega))), o1, y2⟩
              · skip
                have h5' := h5
                try simp only [Bool.or_eq_true, Bool.and_eq_true, decide_eq_true_eq, Bool.or_eq_false_iff, Bool.and_eq_false_iff, decide_eq_false_iff_not, Bool.not_eq_true', Bool.not_eq_false'] at h5'
                refine xc_skip ?_
                refine xc_region ?_
                refine xl_op (P := Tryz.prog) (some 33) rfl rfl (ox_move (v := (.int .i64 j)) g5_f2 ?_)
                refine xl_op (P := Tryz.prog) (some 34) rfl rfl (ox_add64 (a := j) (b := 1) rfl rfl (by omega) ?_)
                refine xl_op (P := Tryz.prog) (some 5) rfl rfl (ox_assign (v := (.int .i64 (j + 1))) rfl ?_)
                refine xl_nil ?_
                have y3 : Chg (fun b => ((.slice A l.length c) : Value).ownBlock = some b) w2 w4 := (Chg.ext (Chg.trans (Chg.refl (fun b => ((.slice A l.length c) : Value).ownBlock = some b) w2) x2 (fun b hb hl => hb)) e2)
                exact ⟨rfl, l.length - (k + (j + 1)).toNat, by omega, q, (j + 1), M, by omega, (by omega), (by omega), (hq1.trans (cmpP_skip (x := x_3) (y := x_4) (by omega) (by omega) hd1 hx_6 hx_8 (by have _h := h5; cases x_3; cases x_4; simp_all) (by omega))), (cmpP_drop0 hd1 (by omega)), g0_f2, g10_f2, g11_f2, g12_f2, g13_f2, g16_f2, g17_f2, g18_f2, g19_f2, g20_f2, g21_f2, g22_f2, g23_f2, g24_f2, g25_f2, g26_f2, g27_f2, g28_f2, g4_f2, g3_f2, (by first | exact rfl | exact (congrArg (Value.int .i64) (by omega))), (o0_f2.ext e2), y3⟩
            · skip
              refine xc_exit ?_
              refine xc_seq ?_
              refine xc_region ?_
              refine xl_op (P := Tryz.prog) (some 54) rfl rfl (ox_move (v := (.slice A l.length c)) g0_f2 ?_)
              refine xl_op (P := Tryz.prog) (some 55) rfl rfl (ox_move (v := (.int .i64 q)) g3_f2 ?_)
              refine xl_op (P := Tryz.prog) (some 56) rfl rfl (ox_sliceFromV (A := A) (n := l.length) (cp := c) (i := q) q.toNat tE_33 rfl rfl (by omega) (by omega) ?_)
              refine xl_op (P := Tryz.prog) none rfl rfl (ox_clearV (cs := Sym.cs) (L := M) (a0 := ⟨0, 0⟩) (k0 := q.toNat) rfl tE_33 (by decide) Sym.len Sym.one rfl (by omega) o0_f2 (made_flat (cs := Sym.cs) (x := ⟨0, 0⟩) rfl (by decide) _) ?_)
              intro w6 e4 z4 o2
              have he4 := e4.size
              refine xl_nil ?_
              refine xc_seq ?_
              refine xc_region ?_
              refine xl_op (P := Tryz.prog) (some 57) rfl rfl (ox_move (v := (.slice A l.length c)) g0_f2 ?_)
              refine xl_op (P := Tryz.prog) (some 58) rfl rfl (ox_move (v := (.int .i64 q)) g3_f2 ?_)
              refine xl_op (P := Tryz.prog) (some 59) rfl rfl (ox_sliceToN (A := A) (cp := c) (i := q) q.toNat tE_33 rfl rfl (by omega) (by omega) (by omega) ?_)
              refine xl_op (P := Tryz.prog) (some 2) rfl rfl (ox_assign (v := (.slice A q.toNat c)) rfl ?_)
              refine xl_nil ?_
              refine xc_ret ?_
              change leaves _ _ _ _ _ _ _
              refine leaves_nil (n := 61) (rs := [.tmp 2]) (vs := [(.slice A q.toNat c)]) rfl ⟨⟨by decide, rfl⟩, trivial⟩ ?_
              have y4 : Chg (fun b => ((.slice A l.length c) : Value).ownBlock = some b) w w6 := (Chg.trans (Chg.trans (Chg.ext (Chg.ext (Chg.refl (fun b => ((.slice A l.length c) : Value).ownBlock = some b) w) x1) e1) x2 (fun b hb hl => hb)) e4 (fun b hb hl => hb))
              exact ⟨_, by rw [compL_len hq1 (by omega) (by omega)]; rfl, by rw [compL_len hq1 (by omega) (by omega), compL_end hq1 (by omega)]; have h9 := Own.takeD (m := q.toNat) Sym.len (by decide) o2 (by omega); rw [List.take_append_of_le_length (by rw [List.length_take]; omega), List.take_take, Nat.min_self] at h9; exact h9, y4⟩
        · skip
          refine xc_skip ?_
          refine xc_region ?_
          refine xl_op (P := Tryz.prog) (some 14) rfl rfl (ox_move (v := (.int .i64 k)) g3_f1 ?_)
          refine xl_op (P := Tryz.prog) (some 15) rfl rfl (ox_add64 (a := k) (b := 1) rfl rfl (by omega) ?_)
          refine xl_op (P := Tryz.prog) (some 3) rfl rfl (ox_assign (v := (.int .i64 (k + 1))) rfl ?_)
          refine xl_nil ?_
          have x3 : Ext w w2 := (Ext.trans x1 e1)
          exact ⟨rfl, l.length - (k + 1).toNat, by omega, (k + 1), by omega, (by omega), (hq.trans (cmpP_keep (by omega) hx_2 (show l[k.toNat - 1]? = some x_2 by rw [show k.toNat - 1 = (k - 1).toNat by omega]; exact hx_4) (fun hh => by have _h := h3; rw [hh] at _h; simp at _h) (by omega))), g0_f1, (by first | exact rfl | exact (congrArg (Value.int .i64) (by omega))), x3⟩
      · skip
        refine xc_exit ?_
        refine xc_seq ?_
        refine xc_region ?_
        refine xl_op (P := Tryz.prog) (some 60) rfl rfl (ox_move (v := (.slice A l.length c)) g0_f1 ?_)
        refine xl_op (P := Tryz.prog) (some 2) rfl rfl (ox_assign (v := (.slice A l.length c)) rfl ?_)
        refine xl_nil ?_
        refine xc_ret ?_
        change leaves _ _ _ _ _ _ _
        refine leaves_nil (n := 61) (rs := [.tmp 2]) (vs := [(.slice A l.length c)]) rfl ⟨⟨by decide, rfl⟩, trivial⟩ ?_
        have y5 : Chg (fun b => ((.slice A l.length c) : Value).ownBlock = some b) w w1 := (Chg.ext (Chg.refl (fun b => ((.slice A l.length c) : Value).ownBlock = some b) w) x1)
        exact ⟨_, by rw [compL_all hq (by omega)]; rfl, by rw [compL_all hq (by omega)]; exact (hO.ext x1), y5⟩
end Go.Proofs.YtnnmdkglgnlenaaGreatDoor
set_option linter.unusedVariables false
set_option linter.unusedSimpArgs false
set_option maxRecDepth 100000
set_option maxHeartbeats 4000000
namespace Go.Proofs.YtnnmdkglgnlenaaGreatDoor
open Go Go.RowKit Go.Vx
theorem stepB_len (good : Sym → Bool) : ∀ (l : List P2) (h : List Bool) (g : Bool), (stepB good l h g).1.length = h.length
  | [], h, g => rfl
  | p :: r, h, g => by
    simp only [stepB]; split
    · rw [stepB_len good r]; simp
    · exact stepB_len good r h g
theorem count_set {h : List Bool} {i : Nat} (hi : h[i]! = false) (hl : i < h.length) : (h.set i true).count false + 1 = h.count false := by
  induction h generalizing i with
  | nil => simp at hl
  | cons b h ih =>
    cases i with
    | zero => simp at hi; subst hi; simp
    | succ i =>
      have := ih (i := i) (by simpa using hi) (by simpa using hl)
      cases b <;> simp [List.count_cons] <;> omega
theorem stepB_mu (good : Sym → Bool) : ∀ (l : List P2) (h : List Bool) (g : Bool), (∀ p ∈ l, p.1.toNat < h.length) → (stepB good l h g).1.count false ≤ h.count false ∧ ((stepB good l h g).2 = true → g = true ∨ (stepB good l h g).1.count false < h.count false)
  | [], h, g, _ => ⟨Nat.le_refl _, fun e => .inl e⟩
  | p :: r, h, g, hl => by
    simp only [stepB]; split
    · rename_i hc
      obtain ⟨h1, h2⟩ := stepB_mu good r (h.set p.1.toNat true) true (fun q hq => by rw [List.length_set]; exact hl q (List.mem_cons_of_mem _ hq))
      have h4 := count_set hc.1 (hl p List.mem_cons_self)
      exact ⟨by omega, fun _ => .inr (by omega)⟩
    · exact stepB_mu good r h g (fun q hq => hl q (List.mem_cons_of_mem _ hq))
theorem stepB_dec (good : Sym → Bool) {g : GD} (hG : GoodG g) {h : List Bool} (hl : h.length = g.names) (hg : (stepB good g.prods h false).2 = true) : (stepB good g.prods h false).1.count false < h.count false := by
  rcases (stepB_mu good g.prods h false (fun p hp => by have := hG.2 p hp; omega)).2 hg with h1 | h1
  · cases h1
  · exact h1
def madeG (good : Sym → Bool) (g : GD) : List Bool := fixN (fun h => stepB good g.prods h false) ((List.replicate g.names false).count false + 1) (List.replicate g.names false)
theorem madeG_len (good : Sym → Bool) (g : GD) : (madeG good g).length = g.names := fixN_inv (P := fun h => h.length = g.names) (fun h hh => (stepB_len good _ h false).trans hh) _ _ List.length_replicate
theorem pf_120 : plainF Tryz.prog 120 = true := by kernel_rfl
theorem pf_121 : plainF Tryz.prog 121 = true := by kernel_rfl
theorem pf_126 : plainF Tryz.prog 126 = true := by kernel_rfl
theorem pf_90 : plainF Tryz.prog 90 = true := by kernel_rfl
theorem check1_calls (x : Sym) (w : World)  :
    Calls Tryz.prog 91 #[(.agg #[(.int .i64 x.kind), (.int .i64 x.n)])] w (Ret (fun v w' => v = .bool true ∧ Ext w w')) := by
  refine calls_xc (n := 3) (f := fun s_ => [(.agg #[(.int .i64 x.kind), (.int .i64 x.n)])].getD s_ undef) Tryz.func91 rfl rfl (by simp) (fun s_ => by simp) ?_
  refine xc_seq ?_
  refine xc_region ?_
  refine xl_op (P := Tryz.prog) (some 1) rfl rfl (ox_box (v := (.agg #[(.int .i64 x.kind), (.int .i64 x.n)])) rfl ?_)
  intro w1 e1 z1 b1
  replace b1 : Blk w1 w.heap.size #[(.int .i64 x.kind), (.int .i64 x.n)] 32 := b1
  refine xl_op (P := Tryz.prog) (some 2) rfl rfl (ox_assign (v := (.bool false)) rfl ?_)
  refine xl_nil ?_
  refine xc_seq ?_
  refine xc_region ?_
  refine xl_op (P := Tryz.prog) (some 2) rfl rfl (ox_assign (v := (.bool true)) rfl ?_)
  refine xl_nil ?_
  refine xc_ret ?_
  change leaves _ _ _ _ _ _ _
  refine leaves_nil (n := 3) (rs := [.tmp 2]) (vs := [(.bool true)]) rfl ⟨⟨by decide, rfl⟩, trivial⟩ ?_
  exact ⟨rfl, e1⟩
theorem nullable1_calls (x : Sym) (w : World)  :
    Calls Tryz.prog 126 #[(.agg #[(.int .i64 x.kind), (.int .i64 x.n)])] w (Ret (fun v w' => v = .bool false ∧ Ext w w')) := by
  refine calls_xc (n := 3) (f := fun s_ => [(.agg #[(.int .i64 x.kind), (.int .i64 x.n)])].getD s_ undef) Tryz.func126 rfl rfl (by simp) (fun s_ => by simp) ?_
  refine xc_seq ?_
  refine xc_region ?_
  refine xl_op (P := Tryz.prog) (some 1) rfl rfl (ox_box (v := (.agg #[(.int .i64 x.kind), (.int .i64 x.n)])) rfl ?_)
  intro w1 e1 z1 b1
  replace b1 : Blk w1 w.heap.size #[(.int .i64 x.kind), (.int .i64 x.n)] 32 := b1
  refine xl_op (P := Tryz.prog) (some 2) rfl rfl (ox_assign (v := (.bool false)) rfl ?_)
  refine xl_nil ?_
  refine xc_seq ?_
  refine xc_region ?_
  refine xl_op (P := Tryz.prog) (some 2) rfl rfl (ox_assign (v := (.bool false)) rfl ?_)
  refine xl_nil ?_
  refine xc_ret ?_
  change leaves _ _ _ _ _ _ _
  refine leaves_nil (n := 3) (rs := [.tmp 2]) (vs := [(.bool false)]) rfl ⟨⟨by decide, rfl⟩, trivial⟩ ?_
  exact ⟨rfl, e1⟩
theorem check2_calls (x : Sym) (w : World)  :
    Calls Tryz.prog 93 #[(.agg #[(.int .i64 x.kind), (.int .i64 x.n)])] w (Ret (fun v w' => v = .int .i64 257 ∧ Ext w w')) := by
  refine calls_xc (n := 3) (f := fun s_ => [(.agg #[(.int .i64 x.kind), (.int .i64 x.n)])].getD s_ undef) Tryz.func93 rfl rfl (by simp) (fun s_ => by simp) ?_
  refine xc_seq ?_
  refine xc_region ?_
  refine xl_op (P := Tryz.prog) (some 1) rfl rfl (ox_box (v := (.agg #[(.int .i64 x.kind), (.int .i64 x.n)])) rfl ?_)
  intro w1 e1 z1 b1
  replace b1 : Blk w1 w.heap.size #[(.int .i64 x.kind), (.int .i64 x.n)] 32 := b1
  refine xl_op (P := Tryz.prog) (some 2) rfl rfl (ox_assign (v := (.int .i64 0)) rfl ?_)
  refine xl_nil ?_
  refine xc_seq ?_
  refine xc_region ?_
  refine xl_op (P := Tryz.prog) (some 2) rfl rfl (ox_assign (v := (.int .i64 257)) rfl ?_)
  refine xl_nil ?_
  refine xc_ret ?_
  change leaves _ _ _ _ _ _ _
  refine leaves_nil (n := 3) (rs := [.tmp 2]) (vs := [(.int .i64 257)]) rfl ⟨⟨by decide, rfl⟩, trivial⟩ ?_
  exact ⟨rfl, e1⟩
theorem made_calls (s : SP) (good : Sym → Bool) (G : Nat) (CB : List Value) (w : World) (hS : SpR w s) (hG : GoodG s.g) (hp : plainF Tryz.prog G = true) (hg : ∀ x W, Calls Tryz.prog G ([Value.agg (Sym.cs x).toArray] ++ CB).toArray W (Ret fun v W' => v = .bool (good x) ∧ Ext W W')) :
    Calls Tryz.prog 90 #[(.agg #[(.slice s.lA s.lex.length s.lc), (.slice s.nA s.names.length s.nc), (.int .i64 s.start), (.slice s.pA s.prods.length s.pc)]), (.func (.func G) #[] CB.toArray)] w (Ret (fun v w' => ∃ A, v = .slice A s.names.length s.names.length ∧ Vx.Own w' 4 1 (.slice A s.names.length s.names.length) s.names.length ((madeG good s.g).flatMap bools) ∧ (∀ k, (Value.slice A s.names.length s.names.length).ownBlock = some k → w.heap.size ≤ k) ∧ Ext w w')) := by
  have hfn := hS.fn.le
  refine calls_xc (n := 11) (f := fun s_ => [(.agg #[(.slice s.lA s.lex.length s.lc), (.slice s.nA s.names.length s.nc), (.int .i64 s.start), (.slice s.pA s.prods.length s.pc)]), (.func (.func G) #[] CB.toArray)].getD s_ undef) Tryz.func90 rfl rfl (by simp) (fun s_ => by simp) ?_
  refine xc_seq ?_
  refine xc_region ?_
  refine xl_op (P := Tryz.prog) (some 2) rfl rfl (ox_box (v := (.agg #[(.slice s.lA s.lex.length s.lc), (.slice s.nA s.names.length s.nc), (.int .i64 s.start), (.slice s.pA s.prods.length s.pc)])) rfl ?_)
  intro w1 e1 z1 b1
  replace b1 : Blk w1 w.heap.size #[(.slice s.lA s.lex.length s.lc), (.slice s.nA s.names.length s.nc), (.int .i64 s.start), (.slice s.pA s.prods.length s.pc)] 26 := b1
  refine xl_op (P := Tryz.prog) (some 3) rfl rfl (ox_box (v := (.func (.func G) #[] CB.toArray)) rfl ?_)
  intro w2 e2 z2 b2
  replace b2 : Blk w2 w1.heap.size #[(.func (.func G) #[] CB.toArray)] 146 := b2
  refine xl_op (P := Tryz.prog) (some 4) rfl rfl (ox_assign (v := (.slice none 0 0)) rfl ?_)
  refine xl_nil ?_
  refine xc_seq ?_
  refine xc_region ?_
  refine xl_op (P := Tryz.prog) (some 5) rfl rfl (ox_fieldAddr (b := w.heap.size) (o := 0) tF_26_1 rfl ?_)
  refine xl_op (P := Tryz.prog) (some 6) rfl rfl (ox_load (v := (.slice s.nA s.names.length s.nc)) tA_23 rfl ((b1.ext e2).cell rfl) ?_)
  refine xl_op (P := Tryz.prog) (some 7) rfl rfl (ox_len (A := s.nA) (n := s.names.length) (cp := s.nc) rfl tU_23 rfl ?_)
  refine xl_op (P := Tryz.prog) (some 8) rfl rfl (ox_makeD (n := s.names.length) (l := ((List.replicate s.names.length false))) (cs := bools) tE_144 rfl rfl (by omega) (by omega) (made_bools _) ?_)
  intro A1 w3 o1 e3 lo1
  have he3 := e3.size
  refine xl_op (P := Tryz.prog) (some 9) rfl rfl (ox_mkFunc (cs := [(.pointer (some ⟨w.heap.size, 0, none⟩)), (.pointer (some ⟨w1.heap.size, 0, none⟩))]) rfl ?_)
  have x1 : Ext w w3 := (Ext.trans (Ext.trans e1 e2) e3)
  refine xl_op (P := Tryz.prog) (some 10) rfl rfl (ox_callE (al := [(.slice A1 s.names.length s.names.length), (.func (.func 121) #[] #[(.pointer (some ⟨w.heap.size, 0, none⟩)), (.pointer (some ⟨w1.heap.size, 0, none⟩))])]) pf_120 rfl (ret_mono (fixedB s.names.length s.names.length A1 _ (fun h => stepB good s.g.prods h false) (fun h => h.count false) (fun h => h.length = s.names.length) 121 [(.pointer (some ⟨w.heap.size, 0, none⟩)), (.pointer (some ⟨w1.heap.size, 0, none⟩))] w3 o1 pf_121 (List.length_replicate) (fun h hI hg => ⟨(stepB_len good _ h false).trans hI, stepB_dec good hG hI hg⟩) (fun h W hI hO' hc => made1_calls s w.heap.size w1.heap.size s.names.length s.names.length A1 h good G CB w W (((b1.ext e2).ext e3).keep hc (fun _h => o1.ne_blk ((b1.ext e2).ext e3) (by decide) _ _h rfl)) ((b2.ext e3).keep hc (fun _h => o1.ne_blk (b2.ext e3) (by decide) _ _h rfl)) (Chg.trans x1 hc (fun b hb hl => absurd hl (by have _h := lo1 b hb; omega))) (fun k hk => by have _h := lo1 k hk; omega) hS hG rfl hO' hp hg)) ?_))
  rintro _ w4 ⟨rfl, o2, y1⟩
  have hy1 := y1.size
  refine xl_op (P := Tryz.prog) (some 4) rfl rfl (ox_assign (v := (.slice A1 s.names.length s.names.length)) rfl ?_)
  refine xl_nil ?_
  refine xc_ret ?_
  change leaves _ _ _ _ _ _ _
  refine leaves_nil (n := 11) (rs := [.tmp 4]) (vs := [(.slice A1 s.names.length s.names.length)]) rfl ⟨⟨by decide, rfl⟩, trivial⟩ ?_
  have x2 : Ext w w4 := (Chg.trans x1 y1 (fun b hb hl => (absurd hl (by have _h := lo1 b hb; omega))))
  exact ⟨A1, rfl, by have h9 := o2; exact h9, fun k hk => by have _h := lo1 k hk; omega, x2⟩
theorem nullable_calls (s : SP) (w : World) (hS : SpR w s) (hG : GoodG s.g) :
    Calls Tryz.prog 94 #[(.agg #[(.slice s.lA s.lex.length s.lc), (.slice s.nA s.names.length s.nc), (.int .i64 s.start), (.slice s.pA s.prods.length s.pc)])] w (Ret (fun v w' => ∃ A, v = .slice A s.names.length s.names.length ∧ Vx.Own w' 4 1 (.slice A s.names.length s.names.length) s.names.length ((madeG (fun _ => false) s.g).flatMap bools) ∧ (∀ k, (Value.slice A s.names.length s.names.length).ownBlock = some k → w.heap.size ≤ k) ∧ Ext w w')) := by
  refine calls_xc (n := 5) (f := fun s_ => [(.agg #[(.slice s.lA s.lex.length s.lc), (.slice s.nA s.names.length s.nc), (.int .i64 s.start), (.slice s.pA s.prods.length s.pc)])].getD s_ undef) Tryz.func94 rfl rfl (by simp) (fun s_ => by simp) ?_
  refine xc_seq ?_
  refine xc_region ?_
  refine xl_op (P := Tryz.prog) (some 1) rfl rfl (ox_box (v := (.agg #[(.slice s.lA s.lex.length s.lc), (.slice s.nA s.names.length s.nc), (.int .i64 s.start), (.slice s.pA s.prods.length s.pc)])) rfl ?_)
  intro w1 e1 z1 b1
  replace b1 : Blk w1 w.heap.size #[(.slice s.lA s.lex.length s.lc), (.slice s.nA s.names.length s.nc), (.int .i64 s.start), (.slice s.pA s.prods.length s.pc)] 26 := b1
  refine xl_op (P := Tryz.prog) (some 2) rfl rfl (ox_assign (v := (.slice none 0 0)) rfl ?_)
  refine xl_nil ?_
  refine xc_seq ?_
  refine xc_region ?_
  refine xl_op (P := Tryz.prog) (some 3) rfl rfl (ox_loadN (vs := [(.slice s.lA s.lex.length s.lc), (.slice s.nA s.names.length s.nc), (.int .i64 s.start), (.slice s.pA s.prods.length s.pc)]) tA_26 tS_26 rfl rfl ⟨b1.cell rfl, b1.cell rfl, b1.cell rfl, b1.cell rfl, trivial⟩ ?_)
  refine xl_op (P := Tryz.prog) (some 4) rfl rfl (ox_callE (al := [(.agg #[(.slice s.lA s.lex.length s.lc), (.slice s.nA s.names.length s.nc), (.int .i64 s.start), (.slice s.pA s.prods.length s.pc)]), (.func (.func 126) #[] #[])]) pf_90 rfl (ret_mono (made_calls s (fun _ => false) 126 [] w1 (hS.ext e1) hG pf_126 (fun x W => nullable1_calls x W)) ?_))
  rintro _ w2 ⟨A1, rfl, o1, lo1, e2⟩
  have he2 := e2.size
  refine xl_op (P := Tryz.prog) (some 2) rfl rfl (ox_assign (v := (.slice A1 s.names.length s.names.length)) rfl ?_)
  refine xl_nil ?_
  refine xc_ret ?_
  change leaves _ _ _ _ _ _ _
  refine leaves_nil (n := 5) (rs := [.tmp 2]) (vs := [(.slice A1 s.names.length s.names.length)]) rfl ⟨⟨by decide, rfl⟩, trivial⟩ ?_
  have x1 : Ext w w2 := (Ext.trans e1 e2)
  exact ⟨A1, rfl, by have h9 := o1; exact h9, fun k hk => by have _h := lo1 k hk; omega, x1⟩
end Go.Proofs.YtnnmdkglgnlenaaGreatDoor
