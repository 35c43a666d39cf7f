/-
  What the small methods of a tree.Node answer. No conditions.
-/
import Derived.Test.YthhbnodnpajljaaVxi
import Derived.Test.YthhbnodnpajljaaRows
import Derived.Test.YthhbnodnpajljaaDt
import Derived.Test.YthhbnodnpajljaaDa
set_option linter.unusedVariables false
set_option linter.unusedSimpArgs false
set_option maxRecDepth 100000
set_option maxHeartbeats 4000000
namespace Go.Proofs.Ythhbnodnpajljaa
open Go Go.RowKit Go.Vx


theorem tA_28 : isAggT Try.prog 28 = some false := by kernel_rfl
theorem tA_3 : isAggT Try.prog 3 = some false := by kernel_rfl
theorem tA_36 : isAggT Try.prog 36 = some false := by kernel_rfl
theorem tA_84 : isAggT Try.prog 84 = some true := by kernel_rfl
theorem tE_28 : sliceT Try.prog 28 = some (36, 1, 8, (.pointer none)) := by kernel_rfl
theorem tF_124_1 : fieldT Try.prog 124 1 = some 1 := by kernel_rfl
theorem tF_124_2 : fieldT Try.prog 124 2 = some 2 := by kernel_rfl
theorem tF_124_3 : fieldT Try.prog 124 3 = some 3 := by kernel_rfl
theorem tF_124_4 : fieldT Try.prog 124 4 = some 4 := by kernel_rfl
theorem tF_124_5 : fieldT Try.prog 124 5 = some 8 := by kernel_rfl
theorem tF_124_6 : fieldT Try.prog 124 6 = some 9 := by kernel_rfl
theorem tS_84 : sizeT Try.prog 84 = some 4 := by kernel_rfl
theorem tU_28 : Try.prog.underlying 28 = some (.slice 36) := by kernel_rfl
theorem tZ_84 : zeroOf Try.prog 84 = some (.agg #[(.int .i64 0), (.int .i64 0), (.int .i64 0), (.int .i64 0)]) := by kernel_rfl

theorem number_calls (st : Value) (t : T) (w : World) (hP : PN st w t) :
    Calls Try.prog 40 #[(.pointer (some ⟨t.b, 0, none⟩))] w (Ret (fun v w' => v = .int .i64 t.id ∧ w = w')) := by
  refine calls_xc (n := 7) (f := fun s_ => [(.pointer (some ⟨t.b, 0, none⟩))].getD s_ undef) Try.func40 rfl rfl (by simp) (fun s_ => by simp) ?_
  refine xc_seq ?_
  refine xc_region ?_
  refine xl_op (P := Try.prog) (some 2) rfl rfl (ox_assign (v := (.int .i64 0)) rfl ?_)
  refine xl_nil ?_
  refine xc_seq ?_
  refine xc_region ?_
  refine xl_op (P := Try.prog) (some 3) rfl rfl (ox_move (v := (.pointer (some ⟨t.b, 0, none⟩))) rfl ?_)
  refine xl_op (P := Try.prog) (some 4) rfl rfl (ox_nilCheck (p := ⟨t.b, 0, none⟩) rfl ?_)
  refine xl_op (P := Try.prog) (some 5) rfl rfl (ox_fieldAddr (b := t.b) (o := 0) tF_124_1 rfl ?_)
  refine xl_op (P := Try.prog) (some 6) rfl rfl (ox_load (v := (.int .i64 t.id)) tA_3 rfl (hP.blk.cell rfl) ?_)
  refine xl_op (P := Try.prog) (some 2) rfl rfl (ox_assign (v := (.int .i64 t.id)) rfl ?_)
  refine xl_nil ?_
  refine xc_ret ?_
  change leaves _ _ _ _ _ _ _
  refine leaves_nil (n := 7) (rs := [.tmp 2]) (vs := [(.int .i64 t.id)]) rfl ⟨⟨by decide, rfl⟩, trivial⟩ ?_
  exact ⟨rfl, rfl⟩

theorem kind_calls (st : Value) (t : T) (w : World) (hP : PN st w t) :
    Calls Try.prog 53 #[(.pointer (some ⟨t.b, 0, none⟩))] w (Ret (fun v w' => v = .int .i64 t.kind ∧ w = w')) := by
  refine calls_xc (n := 7) (f := fun s_ => [(.pointer (some ⟨t.b, 0, none⟩))].getD s_ undef) Try.func53 rfl rfl (by simp) (fun s_ => by simp) ?_
  refine xc_seq ?_
  refine xc_region ?_
  refine xl_op (P := Try.prog) (some 2) rfl rfl (ox_assign (v := (.int .i64 0)) rfl ?_)
  refine xl_nil ?_
  refine xc_seq ?_
  refine xc_region ?_
  refine xl_op (P := Try.prog) (some 3) rfl rfl (ox_move (v := (.pointer (some ⟨t.b, 0, none⟩))) rfl ?_)
  refine xl_op (P := Try.prog) (some 4) rfl rfl (ox_nilCheck (p := ⟨t.b, 0, none⟩) rfl ?_)
  refine xl_op (P := Try.prog) (some 5) rfl rfl (ox_fieldAddr (b := t.b) (o := 0) tF_124_2 rfl ?_)
  refine xl_op (P := Try.prog) (some 6) rfl rfl (ox_load (v := (.int .i64 t.kind)) tA_3 rfl (hP.blk.cell rfl) ?_)
  refine xl_op (P := Try.prog) (some 2) rfl rfl (ox_assign (v := (.int .i64 t.kind)) rfl ?_)
  refine xl_nil ?_
  refine xc_ret ?_
  change leaves _ _ _ _ _ _ _
  refine leaves_nil (n := 7) (rs := [.tmp 2]) (vs := [(.int .i64 t.kind)]) rfl ⟨⟨by decide, rfl⟩, trivial⟩ ?_
  exact ⟨rfl, rfl⟩

theorem n_calls (st : Value) (t : T) (w : World) (hP : PN st w t) :
    Calls Try.prog 54 #[(.pointer (some ⟨t.b, 0, none⟩))] w (Ret (fun v w' => v = .int .i64 t.n ∧ w = w')) := by
  refine calls_xc (n := 7) (f := fun s_ => [(.pointer (some ⟨t.b, 0, none⟩))].getD s_ undef) Try.func54 rfl rfl (by simp) (fun s_ => by simp) ?_
  refine xc_seq ?_
  refine xc_region ?_
  refine xl_op (P := Try.prog) (some 2) rfl rfl (ox_assign (v := (.int .i64 0)) rfl ?_)
  refine xl_nil ?_
  refine xc_seq ?_
  refine xc_region ?_
  refine xl_op (P := Try.prog) (some 3) rfl rfl (ox_move (v := (.pointer (some ⟨t.b, 0, none⟩))) rfl ?_)
  refine xl_op (P := Try.prog) (some 4) rfl rfl (ox_nilCheck (p := ⟨t.b, 0, none⟩) rfl ?_)
  refine xl_op (P := Try.prog) (some 5) rfl rfl (ox_fieldAddr (b := t.b) (o := 0) tF_124_3 rfl ?_)
  refine xl_op (P := Try.prog) (some 6) rfl rfl (ox_load (v := (.int .i64 t.n)) tA_3 rfl (hP.blk.cell rfl) ?_)
  refine xl_op (P := Try.prog) (some 2) rfl rfl (ox_assign (v := (.int .i64 t.n)) rfl ?_)
  refine xl_nil ?_
  refine xc_ret ?_
  change leaves _ _ _ _ _ _ _
  refine leaves_nil (n := 7) (rs := [.tmp 2]) (vs := [(.int .i64 t.n)]) rfl ⟨⟨by decide, rfl⟩, trivial⟩ ?_
  exact ⟨rfl, rfl⟩

theorem width_calls (st : Value) (t : T) (w : World) (hP : PN st w t) :
    Calls Try.prog 61 #[(.pointer (some ⟨t.b, 0, none⟩))] w (Ret (fun v w' => v = .int .i64 (wd t) ∧ w = w')) := by
  refine calls_xc (n := 7) (f := fun s_ => [(.pointer (some ⟨t.b, 0, none⟩))].getD s_ undef) Try.func61 rfl rfl (by simp) (fun s_ => by simp) ?_
  refine xc_seq ?_
  refine xc_region ?_
  refine xl_op (P := Try.prog) (some 2) rfl rfl (ox_assign (v := (.int .i64 0)) rfl ?_)
  refine xl_nil ?_
  refine xc_seq ?_
  refine xc_region ?_
  refine xl_op (P := Try.prog) (some 3) rfl rfl (ox_move (v := (.pointer (some ⟨t.b, 0, none⟩))) rfl ?_)
  refine xl_op (P := Try.prog) (some 4) rfl rfl (ox_nilCheck (p := ⟨t.b, 0, none⟩) rfl ?_)
  refine xl_op (P := Try.prog) (some 5) rfl rfl (ox_fieldAddr (b := t.b) (o := 0) tF_124_6 rfl ?_)
  refine xl_op (P := Try.prog) (some 6) rfl rfl (ox_load (v := (.int .i64 (wd t))) tA_3 rfl (hP.blk.cell rfl) ?_)
  refine xl_op (P := Try.prog) (some 2) rfl rfl (ox_assign (v := (.int .i64 (wd t))) rfl ?_)
  refine xl_nil ?_
  refine xc_ret ?_
  change leaves _ _ _ _ _ _ _
  refine leaves_nil (n := 7) (rs := [.tmp 2]) (vs := [(.int .i64 (wd t))]) rfl ⟨⟨by decide, rfl⟩, trivial⟩ ?_
  exact ⟨rfl, rfl⟩

theorem count_calls (st : Value) (t : T) (w : World) (hP : PN st w t) :
    Calls Try.prog 55 #[(.pointer (some ⟨t.b, 0, none⟩))] w (Ret (fun v w' => v = .int .i64 (t.kids.length : Nat) ∧ w = w')) := by
  refine calls_xc (n := 8) (f := fun s_ => [(.pointer (some ⟨t.b, 0, none⟩))].getD s_ undef) Try.func55 rfl rfl (by simp) (fun s_ => by simp) ?_
  refine xc_seq ?_
  refine xc_region ?_
  refine xl_op (P := Try.prog) (some 2) rfl rfl (ox_assign (v := (.int .i64 0)) rfl ?_)
  refine xl_nil ?_
  refine xc_seq ?_
  refine xc_region ?_
  refine xl_op (P := Try.prog) (some 3) rfl rfl (ox_move (v := (.pointer (some ⟨t.b, 0, none⟩))) rfl ?_)
  refine xl_op (P := Try.prog) (some 4) rfl rfl (ox_nilCheck (p := ⟨t.b, 0, none⟩) rfl ?_)
  refine xl_op (P := Try.prog) (some 5) rfl rfl (ox_fieldAddr (b := t.b) (o := 0) tF_124_5 rfl ?_)
  refine xl_op (P := Try.prog) (some 6) rfl rfl (ox_load (v := (.slice ((t.ka.map fun k => ⟨k, 0, none⟩)) t.kids.length t.kc)) tA_28 rfl (hP.blk.cell rfl) ?_)
  refine xl_op (P := Try.prog) (some 7) rfl rfl (ox_len (A := ((t.ka.map fun k => ⟨k, 0, none⟩))) (n := t.kids.length) (cp := t.kc) rfl tU_28 rfl ?_)
  refine xl_op (P := Try.prog) (some 2) rfl rfl (ox_assign (v := (.int .i64 (((t.kids.length : Nat) : Int)))) rfl ?_)
  refine xl_nil ?_
  refine xc_ret ?_
  change leaves _ _ _ _ _ _ _
  refine leaves_nil (n := 8) (rs := [.tmp 2]) (vs := [(.int .i64 (((t.kids.length : Nat) : Int)))]) rfl ⟨⟨by decide, rfl⟩, trivial⟩ ?_
  exact ⟨rfl, rfl⟩

theorem leafOf_calls (st : Value) (t : T) (w : World) (hP : PN st w t) :
    Calls Try.prog 51 #[(.pointer (some ⟨t.b, 0, none⟩))] w (Ret (fun v w' => v = .tuple #[.agg #[.int .i64 t.lf.kind, .int .i64 t.lf.skip, .int .i64 t.lf.len, .int .i64 t.lf.reach], .bool (decide (t.kind = 1))] ∧ Ext w w')) := by
  refine calls_xc (n := 13) (f := fun s_ => [(.pointer (some ⟨t.b, 0, none⟩))].getD s_ undef) Try.func51 rfl rfl (by simp) (fun s_ => by simp) ?_
  refine xc_seq ?_
  refine xc_region ?_
  refine xl_op (P := Try.prog) (some 2) rfl rfl (ox_alloc tZ_84 ?_)
  intro w1 e1 z1 b1
  replace b1 : Blk w1 w.heap.size #[(.int .i64 0), (.int .i64 0), (.int .i64 0), (.int .i64 0)] 84 := b1
  refine xl_op (P := Try.prog) (some 3) rfl rfl (ox_assign (v := (.bool false)) rfl ?_)
  refine xl_nil ?_
  refine xc_seq ?_
  refine xc_regionE [] (fun W_ => Chg (fun x => x = w.heap.size) w1 W_) hmix ?_
  intro w2 e2 z2
  have hS1 : Chg (fun x => x = w.heap.size) w1 w2 := Ext.to e2
  refine xd_pure 0 (some 4) rfl rfl (by kernel_rfl) (v := (.pointer (some ⟨t.b, 0, none⟩))) (.inl ⟨rfl, fun W_ hW_ => ox_move (v := (.pointer (some ⟨t.b, 0, none⟩))) rfl ⟨rfl, rfl⟩⟩) ?_
  refine xd_pure 1 (some 5) rfl rfl (by kernel_rfl) (v := (.pointer (some ⟨t.b, 0, none⟩))) (.inl ⟨rfl, fun W_ hW_ => ox_nilCheck (p := ⟨t.b, 0, none⟩) rfl ⟨rfl, rfl⟩⟩) ?_
  refine xd_pure 2 (some 6) rfl rfl (by kernel_rfl) (v := (.pointer (some ⟨t.b, 4, none⟩))) (.inl ⟨rfl, fun W_ hW_ => ox_fieldAddr (b := t.b) (o := 0) tF_124_4 rfl ⟨rfl, rfl⟩⟩) ?_
  refine xd_take 3 (some 7) rfl rfl (by kernel_rfl) (v := (.agg #[(.int .i64 t.lf.kind), (.int .i64 t.lf.skip), (.int .i64 t.lf.len), (.int .i64 t.lf.reach)])) (.inl ⟨rfl, fun W_ hW_ => ox_loadN (vs := [(.int .i64 t.lf.kind), (.int .i64 t.lf.skip), (.int .i64 t.lf.len), (.int .i64 t.lf.reach)]) tA_84 tS_84 rfl rfl ⟨((hP.blk.ext e1).keep hW_ (fun _h => by have _h1 : t.b = w.heap.size := _h; have _q := hP.blk.lt; omega)).cell rfl, ((hP.blk.ext e1).keep hW_ (fun _h => by have _h1 : t.b = w.heap.size := _h; have _q := hP.blk.lt; omega)).cell rfl, ((hP.blk.ext e1).keep hW_ (fun _h => by have _h1 : t.b = w.heap.size := _h; have _q := hP.blk.lt; omega)).cell rfl, ((hP.blk.ext e1).keep hW_ (fun _h => by have _h1 : t.b = w.heap.size := _h; have _q := hP.blk.lt; omega)).cell rfl, trivial⟩ ⟨rfl, rfl⟩⟩) hS1 ?_
  refine xd_pure 4 (some 8) rfl rfl (by kernel_rfl) (v := (.pointer (some ⟨t.b, 0, none⟩))) (.inl ⟨rfl, fun W_ hW_ => ox_move (v := (.pointer (some ⟨t.b, 0, none⟩))) rfl ⟨rfl, rfl⟩⟩) ?_
  refine xd_pure 5 (some 9) rfl rfl (by kernel_rfl) (v := (.pointer (some ⟨t.b, 0, none⟩))) (.inl ⟨rfl, fun W_ hW_ => ox_nilCheck (p := ⟨t.b, 0, none⟩) rfl ⟨rfl, rfl⟩⟩) ?_
  refine xd_pure 6 (some 10) rfl rfl (by kernel_rfl) (v := (.pointer (some ⟨t.b, 2, none⟩))) (.inl ⟨rfl, fun W_ hW_ => ox_fieldAddr (b := t.b) (o := 0) tF_124_2 rfl ⟨rfl, rfl⟩⟩) ?_
  refine xd_take 7 (some 11) rfl rfl (by kernel_rfl) (v := (.int .i64 t.kind)) (.inl ⟨rfl, fun W_ hW_ => ox_load (v := (.int .i64 t.kind)) tA_3 rfl (((hP.blk.ext e1).keep hW_ (fun _h => by have _h1 : t.b = w.heap.size := _h; have _q := hP.blk.lt; omega)).cell rfl) ⟨rfl, rfl⟩⟩) hS1 ?_
  refine xd_pure 8 (some 12) rfl rfl (by kernel_rfl) (v := (.bool (decide ((t.kind : Int) = 1)))) (.inl ⟨rfl, fun W_ hW_ => ox_eql (k := .i64) (a := t.kind) (b := 1) rfl rfl ⟨rfl, rfl⟩⟩) ?_
  refine xd_one 9 none rfl rfl (by kernel_rfl) rfl (ox_store (n := 4) (vs := [(.int .i64 t.lf.kind), (.int .i64 t.lf.skip), (.int .i64 t.lf.len), (.int .i64 t.lf.reach)]) tS_84 rfl (v := (.agg #[(.int .i64 t.lf.kind), (.int .i64 t.lf.skip), (.int .i64 t.lf.len), (.int .i64 t.lf.reach)])) rfl rfl rfl rfl (b1.ext e2) (Nat.le_of_ble_eq_true rfl) ?_)
  intro w3 e3 z3 b2
  replace b2 : Blk w3 w.heap.size #[(.int .i64 t.lf.kind), (.int .i64 t.lf.skip), (.int .i64 t.lf.len), (.int .i64 t.lf.reach)] 84 := blk_full b2 rfl
  have hS2 : Chg (fun x => x = w.heap.size) w1 w3 := Chg.chg1 hS1 e3 (by first | (right; omega) | (left; simp))
  refine ⟨.inr fun _ => hS2, ?_⟩
  refine xd_pure 10 (some 3) rfl rfl (by kernel_rfl) (v := (.bool (decide ((t.kind : Int) = 1)))) (.inl ⟨rfl, fun W_ hW_ => ox_assign (v := (.bool (decide ((t.kind : Int) = 1)))) rfl ⟨rfl, rfl⟩⟩) ?_
  refine xd_done (by kernel_rfl) ?_ _
  refine xc_ret ?_
  change leaves _ _ _ _ _ _ _
  refine leaves_nil (n := 13) (rs := [.cell 2 84, .tmp 3]) (vs := [(.agg #[(.int .i64 t.lf.kind), (.int .i64 t.lf.skip), (.int .i64 t.lf.len), (.int .i64 t.lf.reach)]), (.bool (decide ((t.kind : Int) = 1)))]) rfl ⟨⟨by decide, w.heap.size, 0, 4, [(.int .i64 t.lf.kind), (.int .i64 t.lf.skip), (.int .i64 t.lf.len), (.int .i64 t.lf.reach)], rfl, tA_84, tS_84, rfl, ⟨b2.cell rfl, b2.cell rfl, b2.cell rfl, b2.cell rfl, trivial⟩, rfl⟩, ⟨by decide, rfl⟩, trivial⟩ ?_
  exact ⟨rfl, (Ext.chg1 (Ext.trans e1 e2) e3 (by omega))⟩

theorem kid_in (st : Value) (t u : T) (k : Nat) (i : Nat) (w : World) (hP : PN st w t) (hk : t.ka = some k) (hi : t.kids[i]? = some u) (hl : t.kids.length ≤ 4194304) :
    Calls Try.prog 52 #[(.pointer (some ⟨t.b, 0, none⟩)), (.int .i64 ((i : Int)))] w (Ret (fun v w' => v = .tuple #[u.ptr, .bool true] ∧ Ext w w')) := by
  have hb : Blk w t.b #[st, .int .i64 t.id, .int .i64 t.kind, .int .i64 t.n, .int .i64 t.lf.kind, .int .i64 t.lf.skip, .int .i64 t.lf.len, .int .i64 t.lf.reach, .slice (some ⟨k, 0, none⟩) t.kids.length t.kc, .int .i64 (wd t), .int .i64 (lc t), .int .i64 (sz t), .bool (fl t)] 124 := by have h := hP.blk; unfold nodeC kidsV at h; rw [hk] at h; exact h
  have hlt : i < t.kids.length := (List.getElem?_eq_some_iff.1 hi).1
  have hu : w.cell? ⟨k, 0 + (i : Int).toNat * 1, none⟩ = some u.ptr := by have := hP.kid hk hi; simpa using this
  refine calls_xc (n := 24) (f := fun s_ => [(.pointer (some ⟨t.b, 0, none⟩)), (.int .i64 ((i : Int)))].getD s_ undef) Try.func52 rfl rfl (by simp) (fun s_ => by simp) ?_
  refine xc_seq ?_
  refine xc_region ?_
  refine xl_op (P := Try.prog) (some 4) rfl rfl (ox_assign (v := (.pointer none)) rfl ?_)
  refine xl_op (P := Try.prog) (some 5) rfl rfl (ox_assign (v := (.bool false)) rfl ?_)
  refine xl_nil ?_
  refine xc_seq ?_
  refine xc_seq ?_
  refine xc_region ?_
  refine xl_op (P := Try.prog) (some 6) rfl rfl (ox_move (v := (.int .i64 ((i : Int)))) rfl ?_)
  refine xl_op (P := Try.prog) (some 7) rfl rfl (ox_lss (k := .i64) (a := ((i : Int))) (b := 0) rfl rfl ?_)
  refine xl_op (P := Try.prog) (some 8) rfl rfl (ox_move (v := (.bool (decide (((i : Int) : Int) < 0)))) rfl ?_)
  refine xl_may (P := Try.prog) (some 9) (j := 2) (b := false) (((decide (((i : Int) : Int) < 0))) = false) (.bool (decide (((i : Int) : Int) < 0))) (.int .i64 ((i : Int))) rfl rfl rfl (may_b ((decide (((i : Int) : Int) < 0))) false) (fun hp => ox_move (v := (.int .i64 ((i : Int)))) rfl ⟨rfl, rfl⟩) ?_
  refine xl_may (P := Try.prog) (some 10) (j := 2) (b := false) (((decide (((i : Int) : Int) < 0))) = false) (.bool (decide (((i : Int) : Int) < 0))) (.pointer (some ⟨t.b, 0, none⟩)) rfl rfl rfl (may_b ((decide (((i : Int) : Int) < 0))) false) (fun hp => ox_move (v := (.pointer (some ⟨t.b, 0, none⟩))) rfl ⟨rfl, rfl⟩) ?_
  refine xl_may (P := Try.prog) (some 11) (j := 2) (b := false) (((decide (((i : Int) : Int) < 0))) = false) (.bool (decide (((i : Int) : Int) < 0))) (.pointer (some ⟨t.b, 0, none⟩)) rfl rfl rfl (may_b ((decide (((i : Int) : Int) < 0))) false) (fun hp => ox_nilCheck (p := ⟨t.b, 0, none⟩) (if_pos (α := Value) (t := (.pointer (some ⟨t.b, 0, none⟩))) (e := undef) hp) ⟨rfl, rfl⟩) ?_
  refine xl_may (P := Try.prog) (some 12) (j := 2) (b := false) (((decide (((i : Int) : Int) < 0))) = false) (.bool (decide (((i : Int) : Int) < 0))) (.pointer (some ⟨t.b, 8, none⟩)) rfl rfl rfl (may_b ((decide (((i : Int) : Int) < 0))) false) (fun hp => ox_fieldAddr (b := t.b) (o := 0) tF_124_5 (if_pos (α := Value) (t := (.pointer (some ⟨t.b, 0, none⟩))) (e := undef) hp) ⟨rfl, rfl⟩) ?_
  refine xl_may (P := Try.prog) (some 13) (j := 2) (b := false) (((decide (((i : Int) : Int) < 0))) = false) (.bool (decide (((i : Int) : Int) < 0))) (.slice (some ⟨k, 0, none⟩) t.kids.length t.kc) rfl rfl rfl (may_b ((decide (((i : Int) : Int) < 0))) false) (fun hp => ox_load (v := (.slice (some ⟨k, 0, none⟩) t.kids.length t.kc)) tA_28 (if_pos (α := Value) (t := (.pointer (some ⟨t.b, 8, none⟩))) (e := undef) hp) (hb.cell rfl) ⟨rfl, rfl⟩) ?_
  refine xl_may (P := Try.prog) (some 14) (j := 2) (b := false) (((decide (((i : Int) : Int) < 0))) = false) (.bool (decide (((i : Int) : Int) < 0))) (.int .i64 (((t.kids.length : Nat) : Int))) rfl rfl rfl (may_b ((decide (((i : Int) : Int) < 0))) false) (fun hp => ox_len (A := (some ⟨k, 0, none⟩)) (n := t.kids.length) (cp := t.kc) rfl tU_28 (if_pos (α := Value) (t := (.slice (some ⟨k, 0, none⟩) t.kids.length t.kc)) (e := undef) hp) ⟨rfl, rfl⟩) ?_
  refine xl_may (P := Try.prog) (some 15) (j := 2) (b := false) (((decide (((i : Int) : Int) < 0))) = false) (.bool (decide (((i : Int) : Int) < 0))) (.bool (decide ((((t.kids.length : Nat) : Int) : Int) ≤ ((i : Int))))) rfl rfl rfl (may_b ((decide (((i : Int) : Int) < 0))) false) (fun hp => ox_geq (k := .i64) (a := ((i : Int))) (b := (((t.kids.length : Nat) : Int))) (if_pos (α := Value) (t := (.int .i64 ((i : Int)))) (e := undef) hp) (if_pos (α := Value) (t := (.int .i64 (((t.kids.length : Nat) : Int)))) (e := undef) hp) ⟨rfl, rfl⟩) ?_
  refine xl_op (P := Try.prog) (some 16) rfl rfl (ox_pick_or (a := ((decide (((i : Int) : Int) < 0)))) (b := ((decide ((((t.kids.length : Nat) : Int) : Int) ≤ ((i : Int)))))) rfl rfl (fun ha => (if_pos (α := Value) (t := (.bool (decide ((((t.kids.length : Nat) : Int) : Int) ≤ ((i : Int)))))) (e := undef) ha)) ?_)
  refine xl_nil ?_
  refine xc_cond (b := (((decide (((i : Int) : Int) < 0))) || ((decide ((((t.kids.length : Nat) : Int) : Int) ≤ ((i : Int))))))) rfl (fun h1 => ?_) (fun h1 => ?_)
  · skip
    have h1' := h1
    try simp only [Bool.or_eq_true, Bool.and_eq_true, decide_eq_true_eq, Bool.or_eq_false_iff, Bool.and_eq_false_iff, decide_eq_false_iff_not, Bool.not_eq_true', Bool.not_eq_false'] at h1'
    refine xc_seq ?_
    refine xc_region ?_
    refine xl_op (P := Try.prog) (some 4) rfl rfl (ox_assign (v := (.pointer none)) rfl ?_)
    refine xl_op (P := Try.prog) (some 5) rfl rfl (ox_assign (v := (.bool false)) rfl ?_)
    refine xl_nil ?_
    refine xc_ret ?_
    change leaves _ _ _ _ _ _ _
    refine leaves_nil (n := 24) (rs := [.tmp 4, .tmp 5]) (vs := [(.pointer none), (.bool false)]) rfl ⟨⟨by decide, rfl⟩, ⟨by decide, rfl⟩, trivial⟩ ?_
    first | exact ⟨rfl, (Chg.refl _ _)⟩ | (exfalso; omega)
  · skip
    have h1' := h1
    try simp only [Bool.or_eq_true, Bool.and_eq_true, decide_eq_true_eq, Bool.or_eq_false_iff, Bool.and_eq_false_iff, decide_eq_false_iff_not, Bool.not_eq_true', Bool.not_eq_false'] at h1'
    refine xc_skip ?_
    refine xc_seq ?_
    refine xc_region ?_
    refine xl_op (P := Try.prog) (some 17) rfl rfl (ox_move (v := (.pointer (some ⟨t.b, 0, none⟩))) rfl ?_)
    refine xl_op (P := Try.prog) (some 18) rfl rfl (ox_nilCheck (p := ⟨t.b, 0, none⟩) rfl ?_)
    refine xl_op (P := Try.prog) (some 19) rfl rfl (ox_fieldAddr (b := t.b) (o := 0) tF_124_5 rfl ?_)
    refine xl_op (P := Try.prog) (some 20) rfl rfl (ox_load (v := (.slice (some ⟨k, 0, none⟩) t.kids.length t.kc)) tA_28 rfl (hb.cell rfl) ?_)
    refine xl_op (P := Try.prog) (some 21) rfl rfl (ox_move (v := (.int .i64 ((i : Int)))) rfl ?_)
    refine xl_op (P := Try.prog) (some 22) rfl rfl (ox_indexAddr (b := k) (o := 0) (i := ((i : Int))) tE_28 rfl rfl (by omega) (by omega) ?_)
    refine xl_op (P := Try.prog) (some 23) rfl rfl (ox_load (v := (.pointer (some ⟨u.b, 0, none⟩))) tA_36 rfl (hu) ?_)
    refine xl_op (P := Try.prog) (some 4) rfl rfl (ox_assign (v := (.pointer (some ⟨u.b, 0, none⟩))) rfl ?_)
    refine xl_op (P := Try.prog) (some 5) rfl rfl (ox_assign (v := (.bool true)) rfl ?_)
    refine xl_nil ?_
    refine xc_ret ?_
    change leaves _ _ _ _ _ _ _
    refine leaves_nil (n := 24) (rs := [.tmp 4, .tmp 5]) (vs := [(.pointer (some ⟨u.b, 0, none⟩)), (.bool true)]) rfl ⟨⟨by decide, rfl⟩, ⟨by decide, rfl⟩, trivial⟩ ?_
    first | exact ⟨rfl, (Chg.refl _ _)⟩ | (exfalso; omega)

end Go.Proofs.Ythhbnodnpajljaa
