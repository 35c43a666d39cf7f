/-
  The document's Apply. No conditions.
-/
import Derived.Test.YthhbnodnpajljaaVxi
import Derived.Test.YthhbnodnpajljaaRows
import Derived.Test.YthhbnodnpajljaaRap
import Derived.Test.YthhbnodnpajljaaGc
import Derived.Test.YthhbnodnpajljaaFb
set_option linter.unusedVariables false
set_option linter.unusedSimpArgs false
set_option maxRecDepth 100000
set_option maxHeartbeats 4000000
namespace Go.Proofs.Ythhbnodnpajljaa
open Go Go.RowKit Go.Vx

theorem own_cap {w : World} {e : TypeId} {sz n cap : Nat} {A : Option Addr} {xs : List Value} (h : Vx.Own w e sz (.slice A n cap) n xs) : n ≤ cap := by
  obtain ⟨A', c', h1, h2⟩ := h.shape
  simp only [Value.slice.injEq, true_and] at h1
  obtain ⟨_, rfl⟩ := h1
  exact h2
theorem fS_84 : flatS Try.prog 84 [some .i64, some .i64, some .i64, some .i64] = true := by kernel_rfl
theorem pf_43 : plainF Try.prog 43 = true := by kernel_rfl
theorem pf_44 : plainF Try.prog 44 = true := by kernel_rfl
theorem pf_62 : plainF Try.prog 62 = true := by kernel_rfl
theorem tF_88_0 : fieldT Try.prog 88 0 = some 0 := by kernel_rfl
theorem tF_88_1 : fieldT Try.prog 88 1 = some 1 := by kernel_rfl
theorem tF_88_2 : fieldT Try.prog 88 2 = some 2 := by kernel_rfl
theorem tF_88_3 : fieldT Try.prog 88 3 = some 3 := by kernel_rfl
theorem tF_88_4 : fieldT Try.prog 88 4 = some 4 := by kernel_rfl
theorem tF_88_5 : fieldT Try.prog 88 5 = some 5 := by kernel_rfl
theorem tP_84 : placesT Try.prog 84 = some #[(0, 1), (1, 1), (2, 1), (3, 1)] := by kernel_rfl

theorem right_calls (o : OpD) (w : World)  :
    Calls Try.prog 62 #[(.agg #[(.int .i64 o.d), (.int .i64 o.id), (.int .i64 o.kind), (.int .i64 o.n), (.int .i64 o.kids), (.int .i64 o.lf.kind), (.int .i64 o.lf.skip), (.int .i64 o.lf.len), (.int .i64 o.lf.reach)])] w (Ret (fun v w' => v = .bool (decide (rightD o)) ∧ Ext w w')) := by
  refine calls_xc (n := 59) (f := fun s_ => [(.agg #[(.int .i64 o.d), (.int .i64 o.id), (.int .i64 o.kind), (.int .i64 o.n), (.int .i64 o.kids), (.int .i64 o.lf.kind), (.int .i64 o.lf.skip), (.int .i64 o.lf.len), (.int .i64 o.lf.reach)])].getD s_ undef) Try.func62 rfl rfl (by simp) (fun s_ => by simp) ?_
  refine xc_seq ?_
  refine xc_region ?_
  refine xl_op (P := Try.prog) (some 1) rfl rfl (ox_box (v := (.agg #[(.int .i64 o.d), (.int .i64 o.id), (.int .i64 o.kind), (.int .i64 o.n), (.int .i64 o.kids), (.int .i64 o.lf.kind), (.int .i64 o.lf.skip), (.int .i64 o.lf.len), (.int .i64 o.lf.reach)])) rfl ?_)
  intro w1 e1 z1 b1
  replace b1 : Blk w1 w.heap.size #[(.int .i64 o.d), (.int .i64 o.id), (.int .i64 o.kind), (.int .i64 o.n), (.int .i64 o.kids), (.int .i64 o.lf.kind), (.int .i64 o.lf.skip), (.int .i64 o.lf.len), (.int .i64 o.lf.reach)] 88 := b1
  refine xl_op (P := Try.prog) (some 2) rfl rfl (ox_assign (v := (.bool false)) rfl ?_)
  refine xl_nil ?_
  refine xc_seq ?_
  refine xc_region ?_
  refine xl_op (P := Try.prog) (some 4) rfl rfl (ox_mkStruct (ps := []) (cs := #[(.int .i64 0), (.int .i64 0), (.int .i64 0), (.int .i64 0)]) tZ_84 tP_84 rfl (by kernel_rfl) ?_)
  refine xl_op (P := Try.prog) (some 3) rfl rfl (ox_alloc tZ_84 ?_)
  intro w2 e2 z2 b2
  replace b2 : Blk w2 w1.heap.size #[(.int .i64 0), (.int .i64 0), (.int .i64 0), (.int .i64 0)] 84 := b2
  refine xl_op (P := Try.prog) none rfl rfl (ox_store (n := 4) (vs := [(.int .i64 0), (.int .i64 0), (.int .i64 0), (.int .i64 0)]) tS_84 rfl (v := (.agg #[(.int .i64 0), (.int .i64 0), (.int .i64 0), (.int .i64 0)])) rfl rfl rfl rfl b2 (Nat.le_of_ble_eq_true rfl) ?_)
  intro w3 e3 z3 b3
  replace b3 : Blk w3 w1.heap.size #[(.int .i64 0), (.int .i64 0), (.int .i64 0), (.int .i64 0)] 84 := blk_full b3 rfl
  refine xl_nil ?_
  refine xc_seq ?_
  refine xc_seq ?_
  refine xc_region ?_
  refine xl_op (P := Try.prog) (some 5) rfl rfl (ox_fieldAddr (b := w.heap.size) (o := 0) tF_88_0 rfl ?_)
  have q1 := ((b1.ext e2).keep1 e3 ((b1.ext e2).ne b2 (by decide)))
  refine xl_op (P := Try.prog) (some 6) rfl rfl (ox_load (v := (.int .i64 o.d)) tA_3 rfl (q1.cell rfl) ?_)
  refine xl_nil ?_
  refine xc_block ?_
  refine xc_seq ?_
  refine xc_region ?_
  refine xl_op (P := Try.prog) (some 8) rfl rfl (ox_eql (k := .i64) (a := o.d) (b := 1) rfl rfl ?_)
  refine xl_op (P := Try.prog) (some 7) rfl rfl (ox_assign (v := (.bool (decide ((o.d : Int) = 1)))) rfl ?_)
  refine xl_nil ?_
  refine xc_if (p := (o.d : Int) = 1) rfl (fun h1 => ?_) (fun h1 => ?_)
  · skip
    refine xc_seq ?_
    refine xc_region ?_
    refine xl_op (P := Try.prog) (some 9) rfl rfl (ox_fieldAddr (b := w.heap.size) (o := 0) tF_88_2 rfl ?_)
    refine xl_op (P := Try.prog) (some 10) rfl rfl (ox_load (v := (.int .i64 o.kind)) tA_3 rfl (q1.cell rfl) ?_)
    refine xl_op (P := Try.prog) (some 11) rfl rfl (ox_eql (k := .i64) (a := o.kind) (b := 0) rfl rfl ?_)
    refine xl_op (P := Try.prog) (some 12) rfl rfl (ox_move (v := (.bool (decide ((o.kind : Int) = 0)))) rfl ?_)
    by_cases h2 : (o.kind : Int) = 0
    · skip
      refine xl_opg (P := Try.prog) (some 13) (j := 3) (b := true) rfl rfl (congrArg some (decide_eq_true h2)) (ox_fieldAddr (b := w.heap.size) (o := 0) tF_88_3 rfl ?_)
      refine xl_opg (P := Try.prog) (some 14) (j := 3) (b := true) rfl rfl (congrArg some (decide_eq_true h2)) (ox_load (v := (.int .i64 o.n)) tA_3 rfl (q1.cell rfl) ?_)
      refine xl_opg (P := Try.prog) (some 15) (j := 3) (b := true) rfl rfl (congrArg some (decide_eq_true h2)) (ox_eql (k := .i64) (a := o.n) (b := 0) rfl rfl ?_)
      refine xl_op (P := Try.prog) (some 16) rfl rfl (ox_pick_t (v := (.bool (decide ((o.n : Int) = 0)))) (congrArg Value.bool (decide_eq_true h2)) rfl ?_)
      refine xl_op (P := Try.prog) (some 17) rfl rfl (ox_move (v := (.bool (decide ((o.n : Int) = 0)))) rfl ?_)
      by_cases h3 : (o.n : Int) = 0
      · skip
        refine xl_opg (P := Try.prog) (some 18) (j := 8) (b := true) rfl rfl (congrArg some (decide_eq_true h3)) (ox_fieldAddr (b := w.heap.size) (o := 0) tF_88_4 rfl ?_)
        refine xl_opg (P := Try.prog) (some 19) (j := 8) (b := true) rfl rfl (congrArg some (decide_eq_true h3)) (ox_load (v := (.int .i64 o.kids)) tA_3 rfl (q1.cell rfl) ?_)
        refine xl_opg (P := Try.prog) (some 20) (j := 8) (b := true) rfl rfl (congrArg some (decide_eq_true h3)) (ox_eql (k := .i64) (a := o.kids) (b := 0) rfl rfl ?_)
        refine xl_op (P := Try.prog) (some 21) rfl rfl (ox_pick_t (v := (.bool (decide ((o.kids : Int) = 0)))) (congrArg Value.bool (decide_eq_true h3)) rfl ?_)
        refine xl_op (P := Try.prog) (some 22) rfl rfl (ox_move (v := (.bool (decide ((o.kids : Int) = 0)))) rfl ?_)
        by_cases h4 : (o.kids : Int) = 0
        · skip
          refine xl_opg (P := Try.prog) (some 23) (j := 13) (b := true) rfl rfl (congrArg some (decide_eq_true h4)) (ox_fieldAddr (b := w.heap.size) (o := 0) tF_88_5 rfl ?_)
          refine xl_opg (P := Try.prog) (some 24) (j := 13) (b := true) rfl rfl (congrArg some (decide_eq_true h4)) (ox_loadN (vs := [(.int .i64 o.lf.kind), (.int .i64 o.lf.skip), (.int .i64 o.lf.len), (.int .i64 o.lf.reach)]) tA_84 tS_84 rfl rfl ⟨q1.cell rfl, q1.cell rfl, q1.cell rfl, q1.cell rfl, trivial⟩ ?_)
          refine xl_opg (P := Try.prog) (some 25) (j := 13) (b := true) rfl rfl (congrArg some (decide_eq_true h4)) (ox_loadN (vs := [(.int .i64 0), (.int .i64 0), (.int .i64 0), (.int .i64 0)]) tA_84 tS_84 rfl rfl ⟨b3.cell rfl, b3.cell rfl, b3.cell rfl, b3.cell rfl, trivial⟩ ?_)
          refine xl_opg (P := Try.prog) (some 26) (j := 13) (b := true) rfl rfl (congrArg some (decide_eq_true h4)) (ox_eqlF (xs := [(.int .i64 o.lf.kind), (.int .i64 o.lf.skip), (.int .i64 o.lf.len), (.int .i64 o.lf.reach)]) (ys := [(.int .i64 0), (.int .i64 0), (.int .i64 0), (.int .i64 0)]) (p := ((o.lf.kind : Int) = 0 ∧ (o.lf.skip : Int) = 0 ∧ (o.lf.len : Int) = 0 ∧ (o.lf.reach : Int) = 0)) fS_84 rfl rfl rfl rfl (by simp) ?_)
          refine xl_op (P := Try.prog) (some 27) rfl rfl (ox_pick_t (v := (.bool (decide (((o.lf.kind : Int) = 0 ∧ (o.lf.skip : Int) = 0 ∧ (o.lf.len : Int) = 0 ∧ (o.lf.reach : Int) = 0))))) (congrArg Value.bool (decide_eq_true h4)) rfl ?_)
          refine xl_op (P := Try.prog) (some 2) rfl rfl (ox_assign (v := (.bool (decide (((o.lf.kind : Int) = 0 ∧ (o.lf.skip : Int) = 0 ∧ (o.lf.len : Int) = 0 ∧ (o.lf.reach : Int) = 0))))) rfl ?_)
          refine xl_nil ?_
          refine xc_ret ?_
          change leaves _ _ _ _ _ _ _
          refine leaves_nil (n := 59) (rs := [.tmp 2]) (vs := [(.bool (decide (((o.lf.kind : Int) = 0 ∧ (o.lf.skip : Int) = 0 ∧ (o.lf.len : Int) = 0 ∧ (o.lf.reach : Int) = 0))))]) rfl ⟨⟨by decide, rfl⟩, trivial⟩ ?_
          exact ⟨congrArg Value.bool (decide_eq_decide.2 ⟨fun h => .inl ⟨by omega, by omega, by omega, by omega, (lf_eq0 _).2 h⟩, fun hr => by rcases hr with h | h | h; exact (lf_eq0 _).1 h.2.2.2.2; omega; omega⟩), (Ext.chg1 (Ext.trans e1 e2) e3 (by omega))⟩
        · skip
          refine xl_skip (some 23) (j := 13) (b := true) false rfl rfl (congrArg some (decide_eq_false h4)) (by decide) ?_
          refine xl_skip (some 24) (j := 13) (b := true) false rfl rfl (congrArg some (decide_eq_false h4)) (by decide) ?_
          refine xl_skip (some 25) (j := 13) (b := true) false rfl rfl (congrArg some (decide_eq_false h4)) (by decide) ?_
          refine xl_skip (some 26) (j := 13) (b := true) false rfl rfl (congrArg some (decide_eq_false h4)) (by decide) ?_
          refine xl_op (P := Try.prog) (some 27) rfl rfl (ox_pick_f (v := (.bool false)) (congrArg Value.bool (decide_eq_false h4)) rfl ?_)
          refine xl_op (P := Try.prog) (some 2) rfl rfl (ox_assign (v := (.bool false)) rfl ?_)
          refine xl_nil ?_
          refine xc_ret ?_
          change leaves _ _ _ _ _ _ _
          refine leaves_nil (n := 59) (rs := [.tmp 2]) (vs := [(.bool false)]) rfl ⟨⟨by decide, rfl⟩, trivial⟩ ?_
          exact ⟨congrArg Value.bool (show false = decide (rightD o) from by exact (decide_eq_false (fun hr => by rcases hr with h | h | h <;> omega)).symm), (Ext.chg1 (Ext.trans e1 e2) e3 (by omega))⟩
      · skip
        refine xl_skip (some 18) (j := 8) (b := true) false rfl rfl (congrArg some (decide_eq_false h3)) (by decide) ?_
        refine xl_skip (some 19) (j := 8) (b := true) false rfl rfl (congrArg some (decide_eq_false h3)) (by decide) ?_
        refine xl_skip (some 20) (j := 8) (b := true) false rfl rfl (congrArg some (decide_eq_false h3)) (by decide) ?_
        refine xl_op (P := Try.prog) (some 21) rfl rfl (ox_pick_f (v := (.bool false)) (congrArg Value.bool (decide_eq_false h3)) rfl ?_)
        refine xl_op (P := Try.prog) (some 22) rfl rfl (ox_move (v := (.bool false)) rfl ?_)
        refine xl_skip (some 23) (j := 13) (b := true) false rfl rfl rfl (by decide) ?_
        refine xl_skip (some 24) (j := 13) (b := true) false rfl rfl rfl (by decide) ?_
        refine xl_skip (some 25) (j := 13) (b := true) false rfl rfl rfl (by decide) ?_
        refine xl_skip (some 26) (j := 13) (b := true) false rfl rfl rfl (by decide) ?_
        refine xl_op (P := Try.prog) (some 27) rfl rfl (ox_pick_f (v := (.bool false)) rfl rfl ?_)
        refine xl_op (P := Try.prog) (some 2) rfl rfl (ox_assign (v := (.bool false)) rfl ?_)
        refine xl_nil ?_
        refine xc_ret ?_
        change leaves _ _ _ _ _ _ _
        refine leaves_nil (n := 59) (rs := [.tmp 2]) (vs := [(.bool false)]) rfl ⟨⟨by decide, rfl⟩, trivial⟩ ?_
        exact ⟨congrArg Value.bool (show false = decide (rightD o) from by exact (decide_eq_false (fun hr => by rcases hr with h | h | h <;> omega)).symm), (Ext.chg1 (Ext.trans e1 e2) e3 (by omega))⟩
    · skip
      refine xl_skip (some 13) (j := 3) (b := true) false rfl rfl (congrArg some (decide_eq_false h2)) (by decide) ?_
      refine xl_skip (some 14) (j := 3) (b := true) false rfl rfl (congrArg some (decide_eq_false h2)) (by decide) ?_
      refine xl_skip (some 15) (j := 3) (b := true) false rfl rfl (congrArg some (decide_eq_false h2)) (by decide) ?_
      refine xl_op (P := Try.prog) (some 16) rfl rfl (ox_pick_f (v := (.bool false)) (congrArg Value.bool (decide_eq_false h2)) rfl ?_)
      refine xl_op (P := Try.prog) (some 17) rfl rfl (ox_move (v := (.bool false)) rfl ?_)
      refine xl_skip (some 18) (j := 8) (b := true) false rfl rfl rfl (by decide) ?_
      refine xl_skip (some 19) (j := 8) (b := true) false rfl rfl rfl (by decide) ?_
      refine xl_skip (some 20) (j := 8) (b := true) false rfl rfl rfl (by decide) ?_
      refine xl_op (P := Try.prog) (some 21) rfl rfl (ox_pick_f (v := (.bool false)) rfl rfl ?_)
      refine xl_op (P := Try.prog) (some 22) rfl rfl (ox_move (v := (.bool false)) rfl ?_)
      refine xl_skip (some 23) (j := 13) (b := true) false rfl rfl rfl (by decide) ?_
      refine xl_skip (some 24) (j := 13) (b := true) false rfl rfl rfl (by decide) ?_
      refine xl_skip (some 25) (j := 13) (b := true) false rfl rfl rfl (by decide) ?_
      refine xl_skip (some 26) (j := 13) (b := true) false rfl rfl rfl (by decide) ?_
      refine xl_op (P := Try.prog) (some 27) rfl rfl (ox_pick_f (v := (.bool false)) rfl rfl ?_)
      refine xl_op (P := Try.prog) (some 2) rfl rfl (ox_assign (v := (.bool false)) rfl ?_)
      refine xl_nil ?_
      refine xc_ret ?_
      change leaves _ _ _ _ _ _ _
      refine leaves_nil (n := 59) (rs := [.tmp 2]) (vs := [(.bool false)]) rfl ⟨⟨by decide, rfl⟩, trivial⟩ ?_
      exact ⟨congrArg Value.bool (show false = decide (rightD o) from by exact (decide_eq_false (fun hr => by rcases hr with h | h | h <;> omega)).symm), (Ext.chg1 (Ext.trans e1 e2) e3 (by omega))⟩
  · skip
    refine xc_seq ?_
    refine xc_region ?_
    refine xl_op (P := Try.prog) (some 29) rfl rfl (ox_eql (k := .i64) (a := o.d) (b := 2) rfl rfl ?_)
    refine xl_op (P := Try.prog) (some 28) rfl rfl (ox_assign (v := (.bool (decide ((o.d : Int) = 2)))) rfl ?_)
    refine xl_nil ?_
    refine xc_if (p := (o.d : Int) = 2) rfl (fun h5 => ?_) (fun h5 => ?_)
    · skip
      refine xc_seq ?_
      refine xc_region ?_
      refine xl_op (P := Try.prog) (some 30) rfl rfl (ox_fieldAddr (b := w.heap.size) (o := 0) tF_88_1 rfl ?_)
      refine xl_op (P := Try.prog) (some 31) rfl rfl (ox_load (v := (.int .i64 o.id)) tA_3 rfl (q1.cell rfl) ?_)
      refine xl_op (P := Try.prog) (some 32) rfl rfl (ox_eql (k := .i64) (a := o.id) (b := 0) rfl rfl ?_)
      refine xl_op (P := Try.prog) (some 33) rfl rfl (ox_move (v := (.bool (decide ((o.id : Int) = 0)))) rfl ?_)
      by_cases h6 : (o.id : Int) = 0
      · skip
        refine xl_opg (P := Try.prog) (some 34) (j := 3) (b := true) rfl rfl (congrArg some (decide_eq_true h6)) (ox_fieldAddr (b := w.heap.size) (o := 0) tF_88_2 rfl ?_)
        refine xl_opg (P := Try.prog) (some 35) (j := 3) (b := true) rfl rfl (congrArg some (decide_eq_true h6)) (ox_load (v := (.int .i64 o.kind)) tA_3 rfl (q1.cell rfl) ?_)
        refine xl_opg (P := Try.prog) (some 36) (j := 3) (b := true) rfl rfl (congrArg some (decide_eq_true h6)) (ox_eql (k := .i64) (a := o.kind) (b := 0) rfl rfl ?_)
        refine xl_op (P := Try.prog) (some 37) rfl rfl (ox_pick_t (v := (.bool (decide ((o.kind : Int) = 0)))) (congrArg Value.bool (decide_eq_true h6)) rfl ?_)
        refine xl_op (P := Try.prog) (some 38) rfl rfl (ox_move (v := (.bool (decide ((o.kind : Int) = 0)))) rfl ?_)
        by_cases h7 : (o.kind : Int) = 0
        · skip
          refine xl_opg (P := Try.prog) (some 39) (j := 8) (b := true) rfl rfl (congrArg some (decide_eq_true h7)) (ox_fieldAddr (b := w.heap.size) (o := 0) tF_88_3 rfl ?_)
          refine xl_opg (P := Try.prog) (some 40) (j := 8) (b := true) rfl rfl (congrArg some (decide_eq_true h7)) (ox_load (v := (.int .i64 o.n)) tA_3 rfl (q1.cell rfl) ?_)
          refine xl_opg (P := Try.prog) (some 41) (j := 8) (b := true) rfl rfl (congrArg some (decide_eq_true h7)) (ox_eql (k := .i64) (a := o.n) (b := 0) rfl rfl ?_)
          refine xl_op (P := Try.prog) (some 42) rfl rfl (ox_pick_t (v := (.bool (decide ((o.n : Int) = 0)))) (congrArg Value.bool (decide_eq_true h7)) rfl ?_)
          refine xl_op (P := Try.prog) (some 43) rfl rfl (ox_move (v := (.bool (decide ((o.n : Int) = 0)))) rfl ?_)
          by_cases h8 : (o.n : Int) = 0
          · skip
            refine xl_opg (P := Try.prog) (some 44) (j := 13) (b := true) rfl rfl (congrArg some (decide_eq_true h8)) (ox_fieldAddr (b := w.heap.size) (o := 0) tF_88_4 rfl ?_)
            refine xl_opg (P := Try.prog) (some 45) (j := 13) (b := true) rfl rfl (congrArg some (decide_eq_true h8)) (ox_load (v := (.int .i64 o.kids)) tA_3 rfl (q1.cell rfl) ?_)
            refine xl_opg (P := Try.prog) (some 46) (j := 13) (b := true) rfl rfl (congrArg some (decide_eq_true h8)) (ox_eql (k := .i64) (a := o.kids) (b := 0) rfl rfl ?_)
            refine xl_op (P := Try.prog) (some 47) rfl rfl (ox_pick_t (v := (.bool (decide ((o.kids : Int) = 0)))) (congrArg Value.bool (decide_eq_true h8)) rfl ?_)
            refine xl_op (P := Try.prog) (some 2) rfl rfl (ox_assign (v := (.bool (decide ((o.kids : Int) = 0)))) rfl ?_)
            refine xl_nil ?_
            refine xc_ret ?_
            change leaves _ _ _ _ _ _ _
            refine leaves_nil (n := 59) (rs := [.tmp 2]) (vs := [(.bool (decide ((o.kids : Int) = 0)))]) rfl ⟨⟨by decide, rfl⟩, trivial⟩ ?_
            exact ⟨congrArg Value.bool (decide_eq_decide.2 ⟨fun h => .inr (.inl ⟨by omega, by omega, by omega, by omega, by omega⟩), fun hr => by rcases hr with h | h | h <;> omega⟩), (Ext.chg1 (Ext.trans e1 e2) e3 (by omega))⟩
          · skip
            refine xl_skip (some 44) (j := 13) (b := true) false rfl rfl (congrArg some (decide_eq_false h8)) (by decide) ?_
            refine xl_skip (some 45) (j := 13) (b := true) false rfl rfl (congrArg some (decide_eq_false h8)) (by decide) ?_
            refine xl_skip (some 46) (j := 13) (b := true) false rfl rfl (congrArg some (decide_eq_false h8)) (by decide) ?_
            refine xl_op (P := Try.prog) (some 47) rfl rfl (ox_pick_f (v := (.bool false)) (congrArg Value.bool (decide_eq_false h8)) rfl ?_)
            refine xl_op (P := Try.prog) (some 2) rfl rfl (ox_assign (v := (.bool false)) rfl ?_)
            refine xl_nil ?_
            refine xc_ret ?_
            change leaves _ _ _ _ _ _ _
            refine leaves_nil (n := 59) (rs := [.tmp 2]) (vs := [(.bool false)]) rfl ⟨⟨by decide, rfl⟩, trivial⟩ ?_
            exact ⟨congrArg Value.bool (show false = decide (rightD o) from by exact (decide_eq_false (fun hr => by rcases hr with h | h | h <;> omega)).symm), (Ext.chg1 (Ext.trans e1 e2) e3 (by omega))⟩
        · skip
          refine xl_skip (some 39) (j := 8) (b := true) false rfl rfl (congrArg some (decide_eq_false h7)) (by decide) ?_
          refine xl_skip (some 40) (j := 8) (b := true) false rfl rfl (congrArg some (decide_eq_false h7)) (by decide) ?_
          refine xl_skip (some 41) (j := 8) (b := true) false rfl rfl (congrArg some (decide_eq_false h7)) (by decide) ?_
          refine xl_op (P := Try.prog) (some 42) rfl rfl (ox_pick_f (v := (.bool false)) (congrArg Value.bool (decide_eq_false h7)) rfl ?_)
          refine xl_op (P := Try.prog) (some 43) rfl rfl (ox_move (v := (.bool false)) rfl ?_)
          refine xl_skip (some 44) (j := 13) (b := true) false rfl rfl rfl (by decide) ?_
          refine xl_skip (some 45) (j := 13) (b := true) false rfl rfl rfl (by decide) ?_
          refine xl_skip (some 46) (j := 13) (b := true) false rfl rfl rfl (by decide) ?_
          refine xl_op (P := Try.prog) (some 47) rfl rfl (ox_pick_f (v := (.bool false)) rfl rfl ?_)
          refine xl_op (P := Try.prog) (some 2) rfl rfl (ox_assign (v := (.bool false)) rfl ?_)
          refine xl_nil ?_
          refine xc_ret ?_
          change leaves _ _ _ _ _ _ _
          refine leaves_nil (n := 59) (rs := [.tmp 2]) (vs := [(.bool false)]) rfl ⟨⟨by decide, rfl⟩, trivial⟩ ?_
          exact ⟨congrArg Value.bool (show false = decide (rightD o) from by exact (decide_eq_false (fun hr => by rcases hr with h | h | h <;> omega)).symm), (Ext.chg1 (Ext.trans e1 e2) e3 (by omega))⟩
      · skip
        refine xl_skip (some 34) (j := 3) (b := true) false rfl rfl (congrArg some (decide_eq_false h6)) (by decide) ?_
        refine xl_skip (some 35) (j := 3) (b := true) false rfl rfl (congrArg some (decide_eq_false h6)) (by decide) ?_
        refine xl_skip (some 36) (j := 3) (b := true) false rfl rfl (congrArg some (decide_eq_false h6)) (by decide) ?_
        refine xl_op (P := Try.prog) (some 37) rfl rfl (ox_pick_f (v := (.bool false)) (congrArg Value.bool (decide_eq_false h6)) rfl ?_)
        refine xl_op (P := Try.prog) (some 38) rfl rfl (ox_move (v := (.bool false)) rfl ?_)
        refine xl_skip (some 39) (j := 8) (b := true) false rfl rfl rfl (by decide) ?_
        refine xl_skip (some 40) (j := 8) (b := true) false rfl rfl rfl (by decide) ?_
        refine xl_skip (some 41) (j := 8) (b := true) false rfl rfl rfl (by decide) ?_
        refine xl_op (P := Try.prog) (some 42) rfl rfl (ox_pick_f (v := (.bool false)) rfl rfl ?_)
        refine xl_op (P := Try.prog) (some 43) rfl rfl (ox_move (v := (.bool false)) rfl ?_)
        refine xl_skip (some 44) (j := 13) (b := true) false rfl rfl rfl (by decide) ?_
        refine xl_skip (some 45) (j := 13) (b := true) false rfl rfl rfl (by decide) ?_
        refine xl_skip (some 46) (j := 13) (b := true) false rfl rfl rfl (by decide) ?_
        refine xl_op (P := Try.prog) (some 47) rfl rfl (ox_pick_f (v := (.bool false)) rfl rfl ?_)
        refine xl_op (P := Try.prog) (some 2) rfl rfl (ox_assign (v := (.bool false)) rfl ?_)
        refine xl_nil ?_
        refine xc_ret ?_
        change leaves _ _ _ _ _ _ _
        refine leaves_nil (n := 59) (rs := [.tmp 2]) (vs := [(.bool false)]) rfl ⟨⟨by decide, rfl⟩, trivial⟩ ?_
        exact ⟨congrArg Value.bool (show false = decide (rightD o) from by exact (decide_eq_false (fun hr => by rcases hr with h | h | h <;> omega)).symm), (Ext.chg1 (Ext.trans e1 e2) e3 (by omega))⟩
    · skip
      refine xc_seq ?_
      refine xc_region ?_
      refine xl_op (P := Try.prog) (some 49) rfl rfl (ox_eql (k := .i64) (a := o.d) (b := 3) rfl rfl ?_)
      refine xl_op (P := Try.prog) (some 48) rfl rfl (ox_assign (v := (.bool (decide ((o.d : Int) = 3)))) rfl ?_)
      refine xl_nil ?_
      refine xc_if (p := (o.d : Int) = 3) rfl (fun h9 => ?_) (fun h9 => ?_)
      · skip
        refine xc_seq ?_
        refine xc_region ?_
        refine xl_op (P := Try.prog) (some 50) rfl rfl (ox_fieldAddr (b := w.heap.size) (o := 0) tF_88_1 rfl ?_)
        refine xl_op (P := Try.prog) (some 51) rfl rfl (ox_load (v := (.int .i64 o.id)) tA_3 rfl (q1.cell rfl) ?_)
        refine xl_op (P := Try.prog) (some 52) rfl rfl (ox_eql (k := .i64) (a := o.id) (b := 0) rfl rfl ?_)
        refine xl_op (P := Try.prog) (some 53) rfl rfl (ox_move (v := (.bool (decide ((o.id : Int) = 0)))) rfl ?_)
        by_cases h10 : (o.id : Int) = 0
        · skip
          refine xl_opg (P := Try.prog) (some 54) (j := 3) (b := true) rfl rfl (congrArg some (decide_eq_true h10)) (ox_fieldAddr (b := w.heap.size) (o := 0) tF_88_5 rfl ?_)
          refine xl_opg (P := Try.prog) (some 55) (j := 3) (b := true) rfl rfl (congrArg some (decide_eq_true h10)) (ox_loadN (vs := [(.int .i64 o.lf.kind), (.int .i64 o.lf.skip), (.int .i64 o.lf.len), (.int .i64 o.lf.reach)]) tA_84 tS_84 rfl rfl ⟨q1.cell rfl, q1.cell rfl, q1.cell rfl, q1.cell rfl, trivial⟩ ?_)
          refine xl_opg (P := Try.prog) (some 56) (j := 3) (b := true) rfl rfl (congrArg some (decide_eq_true h10)) (ox_loadN (vs := [(.int .i64 0), (.int .i64 0), (.int .i64 0), (.int .i64 0)]) tA_84 tS_84 rfl rfl ⟨b3.cell rfl, b3.cell rfl, b3.cell rfl, b3.cell rfl, trivial⟩ ?_)
          refine xl_opg (P := Try.prog) (some 57) (j := 3) (b := true) rfl rfl (congrArg some (decide_eq_true h10)) (ox_eqlF (xs := [(.int .i64 o.lf.kind), (.int .i64 o.lf.skip), (.int .i64 o.lf.len), (.int .i64 o.lf.reach)]) (ys := [(.int .i64 0), (.int .i64 0), (.int .i64 0), (.int .i64 0)]) (p := ((o.lf.kind : Int) = 0 ∧ (o.lf.skip : Int) = 0 ∧ (o.lf.len : Int) = 0 ∧ (o.lf.reach : Int) = 0)) fS_84 rfl rfl rfl rfl (by simp) ?_)
          refine xl_op (P := Try.prog) (some 58) rfl rfl (ox_pick_t (v := (.bool (decide (((o.lf.kind : Int) = 0 ∧ (o.lf.skip : Int) = 0 ∧ (o.lf.len : Int) = 0 ∧ (o.lf.reach : Int) = 0))))) (congrArg Value.bool (decide_eq_true h10)) rfl ?_)
          refine xl_op (P := Try.prog) (some 2) rfl rfl (ox_assign (v := (.bool (decide (((o.lf.kind : Int) = 0 ∧ (o.lf.skip : Int) = 0 ∧ (o.lf.len : Int) = 0 ∧ (o.lf.reach : Int) = 0))))) rfl ?_)
          refine xl_nil ?_
          refine xc_ret ?_
          change leaves _ _ _ _ _ _ _
          refine leaves_nil (n := 59) (rs := [.tmp 2]) (vs := [(.bool (decide (((o.lf.kind : Int) = 0 ∧ (o.lf.skip : Int) = 0 ∧ (o.lf.len : Int) = 0 ∧ (o.lf.reach : Int) = 0))))]) rfl ⟨⟨by decide, rfl⟩, trivial⟩ ?_
          exact ⟨congrArg Value.bool (decide_eq_decide.2 ⟨fun h => .inr (.inr ⟨by omega, by omega, (lf_eq0 _).2 h⟩), fun hr => by rcases hr with h | h | h; omega; omega; exact (lf_eq0 _).1 h.2.2⟩), (Ext.chg1 (Ext.trans e1 e2) e3 (by omega))⟩
        · skip
          refine xl_skip (some 54) (j := 3) (b := true) false rfl rfl (congrArg some (decide_eq_false h10)) (by decide) ?_
          refine xl_skip (some 55) (j := 3) (b := true) false rfl rfl (congrArg some (decide_eq_false h10)) (by decide) ?_
          refine xl_skip (some 56) (j := 3) (b := true) false rfl rfl (congrArg some (decide_eq_false h10)) (by decide) ?_
          refine xl_skip (some 57) (j := 3) (b := true) false rfl rfl (congrArg some (decide_eq_false h10)) (by decide) ?_
          refine xl_op (P := Try.prog) (some 58) rfl rfl (ox_pick_f (v := (.bool false)) (congrArg Value.bool (decide_eq_false h10)) rfl ?_)
          refine xl_op (P := Try.prog) (some 2) rfl rfl (ox_assign (v := (.bool false)) rfl ?_)
          refine xl_nil ?_
          refine xc_ret ?_
          change leaves _ _ _ _ _ _ _
          refine leaves_nil (n := 59) (rs := [.tmp 2]) (vs := [(.bool false)]) rfl ⟨⟨by decide, rfl⟩, trivial⟩ ?_
          exact ⟨congrArg Value.bool (show false = decide (rightD o) from by exact (decide_eq_false (fun hr => by rcases hr with h | h | h <;> omega)).symm), (Ext.chg1 (Ext.trans e1 e2) e3 (by omega))⟩
      · skip
        refine xc_skip ?_
        refine xc_seq ?_
        refine xc_region ?_
        refine xl_op (P := Try.prog) (some 2) rfl rfl (ox_assign (v := (.bool false)) rfl ?_)
        refine xl_nil ?_
        refine xc_ret ?_
        change leaves _ _ _ _ _ _ _
        refine leaves_nil (n := 59) (rs := [.tmp 2]) (vs := [(.bool false)]) rfl ⟨⟨by decide, rfl⟩, trivial⟩ ?_
        exact ⟨congrArg Value.bool (show false = decide (rightD o) from by exact (decide_eq_false (fun hr => by rcases hr with h | h | h <;> omega)).symm), (Ext.chg1 (Ext.trans e1 e2) e3 (by omega))⟩

theorem named_calls (o : OpD) (w : World)  :
    Calls Try.prog 63 #[(.agg #[(.int .i64 o.d), (.int .i64 o.id), (.int .i64 o.kind), (.int .i64 o.n), (.int .i64 o.kids), (.int .i64 o.lf.kind), (.int .i64 o.lf.skip), (.int .i64 o.lf.len), (.int .i64 o.lf.reach)])] w (Ret (fun v w' => v = .agg (namedD o).cs.toArray ∧ Ext w w')) := by
  refine calls_xc (n := 34) (f := fun s_ => [(.agg #[(.int .i64 o.d), (.int .i64 o.id), (.int .i64 o.kind), (.int .i64 o.n), (.int .i64 o.kids), (.int .i64 o.lf.kind), (.int .i64 o.lf.skip), (.int .i64 o.lf.len), (.int .i64 o.lf.reach)])].getD s_ undef) Try.func63 rfl rfl (by simp) (fun s_ => by simp) ?_
  refine xc_seq ?_
  refine xc_region ?_
  refine xl_op (P := Try.prog) (some 1) rfl rfl (ox_box (v := (.agg #[(.int .i64 o.d), (.int .i64 o.id), (.int .i64 o.kind), (.int .i64 o.n), (.int .i64 o.kids), (.int .i64 o.lf.kind), (.int .i64 o.lf.skip), (.int .i64 o.lf.len), (.int .i64 o.lf.reach)])) rfl ?_)
  intro w1 e1 z1 b1
  replace b1 : Blk w1 w.heap.size #[(.int .i64 o.d), (.int .i64 o.id), (.int .i64 o.kind), (.int .i64 o.n), (.int .i64 o.kids), (.int .i64 o.lf.kind), (.int .i64 o.lf.skip), (.int .i64 o.lf.len), (.int .i64 o.lf.reach)] 88 := b1
  refine xl_op (P := Try.prog) (some 2) rfl rfl (ox_alloc tZ_88 ?_)
  intro w2 e2 z2 b2
  replace b2 : Blk w2 w1.heap.size #[(.int .i64 0), (.int .i64 0), (.int .i64 0), (.int .i64 0), (.int .i64 0), (.int .i64 0), (.int .i64 0), (.int .i64 0), (.int .i64 0)] 88 := b2
  refine xl_nil ?_
  refine xc_seq ?_
  refine xc_seq ?_
  refine xc_region ?_
  refine xl_op (P := Try.prog) (some 3) rfl rfl (ox_fieldAddr (b := w.heap.size) (o := 0) tF_88_0 rfl ?_)
  refine xl_op (P := Try.prog) (some 4) rfl rfl (ox_load (v := (.int .i64 o.d)) tA_3 rfl ((b1.ext e2).cell rfl) ?_)
  refine xl_nil ?_
  refine xc_block ?_
  refine xc_seq ?_
  refine xc_region ?_
  refine xl_op (P := Try.prog) (some 6) rfl rfl (ox_eql (k := .i64) (a := o.d) (b := 1) rfl rfl ?_)
  refine xl_op (P := Try.prog) (some 5) rfl rfl (ox_assign (v := (.bool (decide ((o.d : Int) = 1)))) rfl ?_)
  refine xl_nil ?_
  refine xc_if (p := (o.d : Int) = 1) rfl (fun h1 => ?_) (fun h1 => ?_)
  · skip
    refine xc_seq ?_
    refine xc_region ?_
    refine xl_op (P := Try.prog) (some 7) rfl rfl (ox_fieldAddr (b := w.heap.size) (o := 0) tF_88_0 rfl ?_)
    refine xl_op (P := Try.prog) (some 8) rfl rfl (ox_load (v := (.int .i64 o.d)) tA_3 rfl ((b1.ext e2).cell rfl) ?_)
    refine xl_op (P := Try.prog) (some 9) rfl rfl (ox_fieldAddr (b := w.heap.size) (o := 0) tF_88_1 rfl ?_)
    refine xl_op (P := Try.prog) (some 10) rfl rfl (ox_load (v := (.int .i64 o.id)) tA_3 rfl ((b1.ext e2).cell rfl) ?_)
    refine xl_op (P := Try.prog) (some 11) rfl rfl (ox_mkStruct (ps := [(0, (.int .i64 o.d)), (1, (.int .i64 o.id))]) (cs := #[(.int .i64 o.d), (.int .i64 o.id), (.int .i64 0), (.int .i64 0), (.int .i64 0), (.int .i64 0), (.int .i64 0), (.int .i64 0), (.int .i64 0)]) tZ_88 tP_88 rfl (by kernel_rfl) ?_)
    refine xl_op (P := Try.prog) none rfl rfl (ox_store (n := 9) (vs := [(.int .i64 o.d), (.int .i64 o.id), (.int .i64 0), (.int .i64 0), (.int .i64 0), (.int .i64 0), (.int .i64 0), (.int .i64 0), (.int .i64 0)]) tS_88 rfl (v := (.agg #[(.int .i64 o.d), (.int .i64 o.id), (.int .i64 0), (.int .i64 0), (.int .i64 0), (.int .i64 0), (.int .i64 0), (.int .i64 0), (.int .i64 0)])) rfl rfl rfl rfl b2 (Nat.le_of_ble_eq_true rfl) ?_)
    intro w3 e3 z3 b3
    replace b3 : Blk w3 w1.heap.size #[(.int .i64 o.d), (.int .i64 o.id), (.int .i64 0), (.int .i64 0), (.int .i64 0), (.int .i64 0), (.int .i64 0), (.int .i64 0), (.int .i64 0)] 88 := blk_full b3 rfl
    refine xl_nil ?_
    refine xc_ret ?_
    change leaves _ _ _ _ _ _ _
    refine leaves_nil (n := 34) (rs := [.cell 2 88]) (vs := [(.agg #[(.int .i64 o.d), (.int .i64 o.id), (.int .i64 0), (.int .i64 0), (.int .i64 0), (.int .i64 0), (.int .i64 0), (.int .i64 0), (.int .i64 0)])]) rfl ⟨⟨by decide, w1.heap.size, 0, 9, [(.int .i64 o.d), (.int .i64 o.id), (.int .i64 0), (.int .i64 0), (.int .i64 0), (.int .i64 0), (.int .i64 0), (.int .i64 0), (.int .i64 0)], rfl, tA_88, tS_88, rfl, ⟨b3.cell rfl, b3.cell rfl, b3.cell rfl, b3.cell rfl, b3.cell rfl, b3.cell rfl, b3.cell rfl, b3.cell rfl, b3.cell rfl, trivial⟩, rfl⟩, trivial⟩ ?_
    exact ⟨by unfold namedD; rw [if_pos h1]; rfl, (Ext.chg1 (Ext.trans e1 e2) e3 (by omega))⟩
  · skip
    refine xc_seq ?_
    refine xc_region ?_
    refine xl_op (P := Try.prog) (some 13) rfl rfl (ox_eql (k := .i64) (a := o.d) (b := 2) rfl rfl ?_)
    refine xl_op (P := Try.prog) (some 12) rfl rfl (ox_assign (v := (.bool (decide ((o.d : Int) = 2)))) rfl ?_)
    refine xl_nil ?_
    refine xc_if (p := (o.d : Int) = 2) rfl (fun h2 => ?_) (fun h2 => ?_)
    · skip
      refine xc_seq ?_
      refine xc_region ?_
      refine xl_op (P := Try.prog) (some 14) rfl rfl (ox_fieldAddr (b := w.heap.size) (o := 0) tF_88_0 rfl ?_)
      refine xl_op (P := Try.prog) (some 15) rfl rfl (ox_load (v := (.int .i64 o.d)) tA_3 rfl ((b1.ext e2).cell rfl) ?_)
      refine xl_op (P := Try.prog) (some 16) rfl rfl (ox_fieldAddr (b := w.heap.size) (o := 0) tF_88_5 rfl ?_)
      refine xl_op (P := Try.prog) (some 17) rfl rfl (ox_loadN (vs := [(.int .i64 o.lf.kind), (.int .i64 o.lf.skip), (.int .i64 o.lf.len), (.int .i64 o.lf.reach)]) tA_84 tS_84 rfl rfl ⟨(b1.ext e2).cell rfl, (b1.ext e2).cell rfl, (b1.ext e2).cell rfl, (b1.ext e2).cell rfl, trivial⟩ ?_)
      refine xl_op (P := Try.prog) (some 18) rfl rfl (ox_mkStruct (ps := [(0, (.int .i64 o.d)), (5, (.agg #[(.int .i64 o.lf.kind), (.int .i64 o.lf.skip), (.int .i64 o.lf.len), (.int .i64 o.lf.reach)]))]) (cs := #[(.int .i64 o.d), (.int .i64 0), (.int .i64 0), (.int .i64 0), (.int .i64 0), (.int .i64 o.lf.kind), (.int .i64 o.lf.skip), (.int .i64 o.lf.len), (.int .i64 o.lf.reach)]) tZ_88 tP_88 rfl (by kernel_rfl) ?_)
      refine xl_op (P := Try.prog) none rfl rfl (ox_store (n := 9) (vs := [(.int .i64 o.d), (.int .i64 0), (.int .i64 0), (.int .i64 0), (.int .i64 0), (.int .i64 o.lf.kind), (.int .i64 o.lf.skip), (.int .i64 o.lf.len), (.int .i64 o.lf.reach)]) tS_88 rfl (v := (.agg #[(.int .i64 o.d), (.int .i64 0), (.int .i64 0), (.int .i64 0), (.int .i64 0), (.int .i64 o.lf.kind), (.int .i64 o.lf.skip), (.int .i64 o.lf.len), (.int .i64 o.lf.reach)])) rfl rfl rfl rfl b2 (Nat.le_of_ble_eq_true rfl) ?_)
      intro w4 e4 z4 b4
      replace b4 : Blk w4 w1.heap.size #[(.int .i64 o.d), (.int .i64 0), (.int .i64 0), (.int .i64 0), (.int .i64 0), (.int .i64 o.lf.kind), (.int .i64 o.lf.skip), (.int .i64 o.lf.len), (.int .i64 o.lf.reach)] 88 := blk_full b4 rfl
      refine xl_nil ?_
      refine xc_ret ?_
      change leaves _ _ _ _ _ _ _
      refine leaves_nil (n := 34) (rs := [.cell 2 88]) (vs := [(.agg #[(.int .i64 o.d), (.int .i64 0), (.int .i64 0), (.int .i64 0), (.int .i64 0), (.int .i64 o.lf.kind), (.int .i64 o.lf.skip), (.int .i64 o.lf.len), (.int .i64 o.lf.reach)])]) rfl ⟨⟨by decide, w1.heap.size, 0, 9, [(.int .i64 o.d), (.int .i64 0), (.int .i64 0), (.int .i64 0), (.int .i64 0), (.int .i64 o.lf.kind), (.int .i64 o.lf.skip), (.int .i64 o.lf.len), (.int .i64 o.lf.reach)], rfl, tA_88, tS_88, rfl, ⟨b4.cell rfl, b4.cell rfl, b4.cell rfl, b4.cell rfl, b4.cell rfl, b4.cell rfl, b4.cell rfl, b4.cell rfl, b4.cell rfl, trivial⟩, rfl⟩, trivial⟩ ?_
      exact ⟨by unfold namedD; rw [if_neg h1, if_pos h2]; rfl, (Ext.chg1 (Ext.trans e1 e2) e4 (by omega))⟩
    · skip
      refine xc_seq ?_
      refine xc_region ?_
      refine xl_op (P := Try.prog) (some 20) rfl rfl (ox_eql (k := .i64) (a := o.d) (b := 3) rfl rfl ?_)
      refine xl_op (P := Try.prog) (some 19) rfl rfl (ox_assign (v := (.bool (decide ((o.d : Int) = 3)))) rfl ?_)
      refine xl_nil ?_
      refine xc_if (p := (o.d : Int) = 3) rfl (fun h3 => ?_) (fun h3 => ?_)
      · skip
        refine xc_seq ?_
        refine xc_region ?_
        refine xl_op (P := Try.prog) (some 21) rfl rfl (ox_fieldAddr (b := w.heap.size) (o := 0) tF_88_0 rfl ?_)
        refine xl_op (P := Try.prog) (some 22) rfl rfl (ox_load (v := (.int .i64 o.d)) tA_3 rfl ((b1.ext e2).cell rfl) ?_)
        refine xl_op (P := Try.prog) (some 23) rfl rfl (ox_fieldAddr (b := w.heap.size) (o := 0) tF_88_2 rfl ?_)
        refine xl_op (P := Try.prog) (some 24) rfl rfl (ox_load (v := (.int .i64 o.kind)) tA_3 rfl ((b1.ext e2).cell rfl) ?_)
        refine xl_op (P := Try.prog) (some 25) rfl rfl (ox_fieldAddr (b := w.heap.size) (o := 0) tF_88_3 rfl ?_)
        refine xl_op (P := Try.prog) (some 26) rfl rfl (ox_load (v := (.int .i64 o.n)) tA_3 rfl ((b1.ext e2).cell rfl) ?_)
        refine xl_op (P := Try.prog) (some 27) rfl rfl (ox_fieldAddr (b := w.heap.size) (o := 0) tF_88_4 rfl ?_)
        refine xl_op (P := Try.prog) (some 28) rfl rfl (ox_load (v := (.int .i64 o.kids)) tA_3 rfl ((b1.ext e2).cell rfl) ?_)
        refine xl_op (P := Try.prog) (some 29) rfl rfl (ox_mkStruct (ps := [(0, (.int .i64 o.d)), (2, (.int .i64 o.kind)), (3, (.int .i64 o.n)), (4, (.int .i64 o.kids))]) (cs := #[(.int .i64 o.d), (.int .i64 0), (.int .i64 o.kind), (.int .i64 o.n), (.int .i64 o.kids), (.int .i64 0), (.int .i64 0), (.int .i64 0), (.int .i64 0)]) tZ_88 tP_88 rfl (by kernel_rfl) ?_)
        refine xl_op (P := Try.prog) none rfl rfl (ox_store (n := 9) (vs := [(.int .i64 o.d), (.int .i64 0), (.int .i64 o.kind), (.int .i64 o.n), (.int .i64 o.kids), (.int .i64 0), (.int .i64 0), (.int .i64 0), (.int .i64 0)]) tS_88 rfl (v := (.agg #[(.int .i64 o.d), (.int .i64 0), (.int .i64 o.kind), (.int .i64 o.n), (.int .i64 o.kids), (.int .i64 0), (.int .i64 0), (.int .i64 0), (.int .i64 0)])) rfl rfl rfl rfl b2 (Nat.le_of_ble_eq_true rfl) ?_)
        intro w5 e5 z5 b5
        replace b5 : Blk w5 w1.heap.size #[(.int .i64 o.d), (.int .i64 0), (.int .i64 o.kind), (.int .i64 o.n), (.int .i64 o.kids), (.int .i64 0), (.int .i64 0), (.int .i64 0), (.int .i64 0)] 88 := blk_full b5 rfl
        refine xl_nil ?_
        refine xc_ret ?_
        change leaves _ _ _ _ _ _ _
        refine leaves_nil (n := 34) (rs := [.cell 2 88]) (vs := [(.agg #[(.int .i64 o.d), (.int .i64 0), (.int .i64 o.kind), (.int .i64 o.n), (.int .i64 o.kids), (.int .i64 0), (.int .i64 0), (.int .i64 0), (.int .i64 0)])]) rfl ⟨⟨by decide, w1.heap.size, 0, 9, [(.int .i64 o.d), (.int .i64 0), (.int .i64 o.kind), (.int .i64 o.n), (.int .i64 o.kids), (.int .i64 0), (.int .i64 0), (.int .i64 0), (.int .i64 0)], rfl, tA_88, tS_88, rfl, ⟨b5.cell rfl, b5.cell rfl, b5.cell rfl, b5.cell rfl, b5.cell rfl, b5.cell rfl, b5.cell rfl, b5.cell rfl, b5.cell rfl, trivial⟩, rfl⟩, trivial⟩ ?_
        exact ⟨by unfold namedD; rw [if_neg h1, if_neg h2, if_pos h3]; rfl, (Ext.chg1 (Ext.trans e1 e2) e5 (by omega))⟩
      · skip
        refine xc_skip ?_
        refine xc_seq ?_
        refine xc_region ?_
        refine xl_op (P := Try.prog) (some 30) rfl rfl (ox_fieldAddr (b := w.heap.size) (o := 0) tF_88_0 rfl ?_)
        refine xl_op (P := Try.prog) (some 31) rfl rfl (ox_load (v := (.int .i64 o.d)) tA_3 rfl ((b1.ext e2).cell rfl) ?_)
        refine xl_op (P := Try.prog) (some 32) rfl rfl (ox_add (k := .i64) (a := o.d) (b := 1) rfl rfl ?_)
        refine xl_op (P := Try.prog) (some 33) rfl rfl (ox_mkStruct (ps := [(0, (.int .i64 (IntKind.i64.wrap (o.d + 1))))]) (cs := #[(.int .i64 (IntKind.i64.wrap (o.d + 1))), (.int .i64 0), (.int .i64 0), (.int .i64 0), (.int .i64 0), (.int .i64 0), (.int .i64 0), (.int .i64 0), (.int .i64 0)]) tZ_88 tP_88 rfl (by kernel_rfl) ?_)
        refine xl_op (P := Try.prog) none rfl rfl (ox_store (n := 9) (vs := [(.int .i64 (IntKind.i64.wrap (o.d + 1))), (.int .i64 0), (.int .i64 0), (.int .i64 0), (.int .i64 0), (.int .i64 0), (.int .i64 0), (.int .i64 0), (.int .i64 0)]) tS_88 rfl (v := (.agg #[(.int .i64 (IntKind.i64.wrap (o.d + 1))), (.int .i64 0), (.int .i64 0), (.int .i64 0), (.int .i64 0), (.int .i64 0), (.int .i64 0), (.int .i64 0), (.int .i64 0)])) rfl rfl rfl rfl b2 (Nat.le_of_ble_eq_true rfl) ?_)
        intro w6 e6 z6 b6
        replace b6 : Blk w6 w1.heap.size #[(.int .i64 (IntKind.i64.wrap (o.d + 1))), (.int .i64 0), (.int .i64 0), (.int .i64 0), (.int .i64 0), (.int .i64 0), (.int .i64 0), (.int .i64 0), (.int .i64 0)] 88 := blk_full b6 rfl
        refine xl_nil ?_
        refine xc_ret ?_
        change leaves _ _ _ _ _ _ _
        refine leaves_nil (n := 34) (rs := [.cell 2 88]) (vs := [(.agg #[(.int .i64 (IntKind.i64.wrap (o.d + 1))), (.int .i64 0), (.int .i64 0), (.int .i64 0), (.int .i64 0), (.int .i64 0), (.int .i64 0), (.int .i64 0), (.int .i64 0)])]) rfl ⟨⟨by decide, w1.heap.size, 0, 9, [(.int .i64 (IntKind.i64.wrap (o.d + 1))), (.int .i64 0), (.int .i64 0), (.int .i64 0), (.int .i64 0), (.int .i64 0), (.int .i64 0), (.int .i64 0), (.int .i64 0)], rfl, tA_88, tS_88, rfl, ⟨b6.cell rfl, b6.cell rfl, b6.cell rfl, b6.cell rfl, b6.cell rfl, b6.cell rfl, b6.cell rfl, b6.cell rfl, b6.cell rfl, trivial⟩, rfl⟩, trivial⟩ ?_
        exact ⟨by unfold namedD; rw [if_neg h1, if_neg h2, if_neg h3]; rfl, (Ext.chg1 (Ext.trans e1 e2) e6 (by omega))⟩

theorem refApply_calls (ra : T) (l : List OpD) (A : Option Addr) (c : Nat) (w : World) (hP : PR w ra) (hs : sz ra ≤ 4194304) (hA : RowA w A (opC l)) (hn : l.length ≤ 4611686018427387904) :
    Calls Try.prog 35 #[(.pointer (some ⟨ra.b, 0, none⟩)), (.slice A l.length c)] w (Ret (fun v w' => ∃ o er, v = .tuple #[.pointer o, .int .i64 er] ∧ ARes (aEnd (fun k => (findT k ra).map skel) l) er o (fun y => ∃ p, o = some ⟨p.b, 0, none⟩ ∧ PR w' p ∧ skel p = y ∧ sz p ≤ 4194304) ∧ Ext w w')) := by
  refine calls_xc (n := 98) (f := fun s_ => [(.pointer (some ⟨ra.b, 0, none⟩)), (.slice A l.length c)].getD s_ undef) Try.func35 rfl rfl (by simp) (fun s_ => by simp) ?_
  refine xc_seq ?_
  refine xc_region ?_
  refine xl_op (P := Try.prog) (some 4) rfl rfl (ox_assign (v := (.pointer none)) rfl ?_)
  refine xl_op (P := Try.prog) (some 5) rfl rfl (ox_assign (v := (.int .i64 0)) rfl ?_)
  refine xl_nil ?_
  refine xc_seq ?_
  refine xc_seq ?_
  refine xc_region ?_
  refine xl_op (P := Try.prog) (some 13) rfl rfl (ox_move (v := (.slice A l.length c)) rfl ?_)
  refine xl_op (P := Try.prog) (some 14) rfl rfl (ox_len (A := A) (n := l.length) (cp := c) rfl tU_54 rfl ?_)
  refine xl_op (P := Try.prog) (some 15) rfl rfl (ox_gtr (k := .i64) (a := (((l.length : Nat) : Int))) (b := 4194304) rfl rfl ?_)
  refine xl_nil ?_
  refine xc_if (p := (4194304 : Int) < (((l.length : Nat) : Int))) rfl (fun h1 => ?_) (fun h1 => ?_)
  · skip
    have hlong : 4194304 < l.length := by omega
    refine xc_seq ?_
    refine xc_region ?_
    refine xl_op (P := Try.prog) (some 4) rfl rfl (ox_assign (v := (.pointer none)) rfl ?_)
    refine xl_op (P := Try.prog) (some 5) rfl rfl (ox_assign (v := (.int .i64 2)) rfl ?_)
    refine xl_nil ?_
    refine xc_ret ?_
    change leaves _ _ _ _ _ _ _
    refine leaves_nil (n := 98) (rs := [.tmp 4, .tmp 5]) (vs := [(.pointer none), (.int .i64 2)]) rfl ⟨⟨by decide, rfl⟩, ⟨by decide, rfl⟩, trivial⟩ ?_
    exact ⟨none, 2, rfl, by unfold aEnd; rw [if_pos hlong]; exact ⟨rfl, rfl⟩, (Chg.refl _ _)⟩
  · skip
    have hlong : ¬ 4194304 < l.length := by omega
    refine xc_skip ?_
    refine xc_seq ?_
    refine xc_region ?_
    refine xl_op (P := Try.prog) (some 6) rfl rfl (ox_assign (v := (.slice none 0 0)) rfl ?_)
    refine xl_nil ?_
    refine xc_seq ?_
    refine xc_seq ?_
    refine xc_region ?_
    refine xl_op (P := Try.prog) (some 7) rfl rfl (ox_assign (v := (.int .i64 0)) rfl ?_)
    refine xl_nil ?_
    refine xc_block ?_
    refine xc_loopN (fun m f W => ∃ (i : Nat) (st : List T) (Ao : Option Addr) (co : Nat), m = l.length - i ∧ i ≤ l.length ∧ st.length ≤ i ∧ (∀ t ∈ st, sz t ≤ 4194304) ∧ aRun (fun k => (findT k ra).map skel) l [] = aRun (fun k => (findT k ra).map skel) (l.drop i) (st.map skel) ∧ f 0 = (.pointer (some ⟨ra.b, 0, none⟩)) ∧ f 1 = (.slice A l.length c) ∧ f 6 = (.slice Ao st.length co) ∧ f 7 = (.int .i64 ((i : Nat))) ∧ Vx.Own W 38 1 (.slice Ao st.length co) st.length (st.map T.ptr) ∧ PRL W st ∧ (∀ b ∈ blocksL st, ((.slice Ao st.length co) : Value).ownBlock ≠ some b) ∧ (∀ k, ((.slice Ao st.length co) : Value).ownBlock = some k → w.heap.size ≤ k) ∧ Ext w W) (l.length) ?_ ?_
    · exact ⟨0, [], none, 0, by omega, by omega, by simp, by simp, by simp, rfl, rfl, rfl, (by first | exact rfl | exact (congrArg (Value.int .i64) (by omega))), (Vx.Own.nil _ _ _), trivial, (by simp [blocksL]), (by simp [Value.ownBlock]), (Chg.refl _ _)⟩
    · rintro m f1 w1 ⟨i, st, Ao, co, hm, hi, hsti, hsz, hrun, g0_f1, g1_f1, g6_f1, g7_f1, o_f1, pr_f1, nb_f1, lo_f1, e_f1⟩
      have hzE := e_f1.size
      refine xc_seq ?_
      refine xc_seq ?_
      refine xc_region ?_
      refine xl_op (P := Try.prog) (some 16) rfl rfl (ox_move (v := (.int .i64 ((i : Nat)))) g7_f1 ?_)
      refine xl_op (P := Try.prog) (some 17) rfl rfl (ox_move (v := (.slice A l.length c)) g1_f1 ?_)
      refine xl_op (P := Try.prog) (some 18) rfl rfl (ox_len (A := A) (n := l.length) (cp := c) rfl tU_54 rfl ?_)
      refine xl_op (P := Try.prog) (some 19) rfl rfl (ox_lss (k := .i64) (a := ((i : Nat))) (b := (((l.length : Nat) : Int))) rfl rfl ?_)
      refine xl_nil ?_
      refine xc_if (p := ((i : Nat) : Int) < (((l.length : Nat) : Int))) rfl (fun h2 => ?_) (fun h2 => ?_)
      · skip
        have hil : i < l.length := by omega
        obtain ⟨o, ho⟩ := get_ex (l := l) (i := i) hil
        obtain ⟨g, oo, rfl⟩ := hA.ex (by intro hh; cases l with | nil => simp at ho | cons q l => simp [opC, OpD.cs] at hh)
        have hco : CellsL w g (oo + i * 9) o.cs := cellsL_flat OpD.cs 9 (fun _ => rfl) hA.cells ho
        refine xc_skip ?_
        refine xc_seq ?_
        refine xc_block ?_
        refine xc_seq ?_
        refine xc_region ?_
        refine xl_op (P := Try.prog) (some 22) rfl rfl (ox_move (v := (.slice (some ⟨g, oo, none⟩) l.length c)) g1_f1 ?_)
        refine xl_op (P := Try.prog) (some 23) rfl rfl (ox_move (v := (.int .i64 ((i : Nat)))) g7_f1 ?_)
        refine xl_op (P := Try.prog) (some 24) rfl rfl (ox_indexAddr (b := g) (o := oo) (i := ((i : Nat))) tE_54 rfl rfl (by omega) (by omega) ?_)
        refine xl_op (P := Try.prog) (some 25) rfl rfl (ox_loadN (vs := [(.int .i64 o.d), (.int .i64 o.id), (.int .i64 o.kind), (.int .i64 o.n), (.int .i64 o.kids), (.int .i64 o.lf.kind), (.int .i64 o.lf.skip), (.int .i64 o.lf.len), (.int .i64 o.lf.reach)]) tA_88 tS_88 rfl rfl (CellsL.keep e_f1 not_false hco) ?_)
        refine xl_op (P := Try.prog) (some 8) rfl rfl (ox_alloc tZ_88 ?_)
        intro w2 e1 z1 b1
        replace b1 : Blk w2 w1.heap.size #[(.int .i64 0), (.int .i64 0), (.int .i64 0), (.int .i64 0), (.int .i64 0), (.int .i64 0), (.int .i64 0), (.int .i64 0), (.int .i64 0)] 88 := b1
        refine xl_op (P := Try.prog) none rfl rfl (ox_store (n := 9) (vs := [(.int .i64 o.d), (.int .i64 o.id), (.int .i64 o.kind), (.int .i64 o.n), (.int .i64 o.kids), (.int .i64 o.lf.kind), (.int .i64 o.lf.skip), (.int .i64 o.lf.len), (.int .i64 o.lf.reach)]) tS_88 rfl (v := (.agg #[(.int .i64 o.d), (.int .i64 o.id), (.int .i64 o.kind), (.int .i64 o.n), (.int .i64 o.kids), (.int .i64 o.lf.kind), (.int .i64 o.lf.skip), (.int .i64 o.lf.len), (.int .i64 o.lf.reach)])) rfl rfl rfl rfl b1 (Nat.le_of_ble_eq_true rfl) ?_)
        intro w3 e2 z2 b2
        replace b2 : Blk w3 w1.heap.size #[(.int .i64 o.d), (.int .i64 o.id), (.int .i64 o.kind), (.int .i64 o.n), (.int .i64 o.kids), (.int .i64 o.lf.kind), (.int .i64 o.lf.skip), (.int .i64 o.lf.len), (.int .i64 o.lf.reach)] 88 := blk_full b2 rfl
        refine xl_nil ?_
        refine xc_seq ?_
        refine xc_seq ?_
        refine xc_region ?_
        refine xl_op (P := Try.prog) (some 26) rfl rfl (ox_loadN (vs := [(.int .i64 o.d), (.int .i64 o.id), (.int .i64 o.kind), (.int .i64 o.n), (.int .i64 o.kids), (.int .i64 o.lf.kind), (.int .i64 o.lf.skip), (.int .i64 o.lf.len), (.int .i64 o.lf.reach)]) tA_88 tS_88 rfl rfl ⟨b2.cell rfl, b2.cell rfl, b2.cell rfl, b2.cell rfl, b2.cell rfl, b2.cell rfl, b2.cell rfl, b2.cell rfl, b2.cell rfl, trivial⟩ ?_)
        refine xl_op (P := Try.prog) (some 27) rfl rfl (ox_callE (al := [(.agg #[(.int .i64 o.d), (.int .i64 o.id), (.int .i64 o.kind), (.int .i64 o.n), (.int .i64 o.kids), (.int .i64 o.lf.kind), (.int .i64 o.lf.skip), (.int .i64 o.lf.len), (.int .i64 o.lf.reach)])]) pf_62 rfl (ret_mono (right_calls o w3) ?_))
        rintro _ w4 ⟨rfl, e3⟩
        have he3 := e3.size
        refine xl_op (P := Try.prog) (some 28) rfl rfl (ox_not (b := ((decide (rightD o)))) rfl ?_)
        refine xl_nil ?_
        refine xc_cond (b := (!(decide (rightD o)))) rfl (fun h3 => ?_) (fun h3 => ?_)
        · skip
          have h3' := h3
          try simp only [Bool.or_eq_true, Bool.and_eq_true, decide_eq_true_eq, Bool.or_eq_false_iff, Bool.and_eq_false_iff, decide_eq_false_iff_not, Bool.not_eq_true', Bool.not_eq_false'] at h3'
          have hrt : ¬ rightD o := by simpa using h3
          refine xc_seq ?_
          refine xc_region ?_
          refine xl_op (P := Try.prog) (some 4) rfl rfl (ox_assign (v := (.pointer none)) rfl ?_)
          refine xl_op (P := Try.prog) (some 5) rfl rfl (ox_assign (v := (.int .i64 150)) rfl ?_)
          refine xl_nil ?_
          refine xc_ret ?_
          change leaves _ _ _ _ _ _ _
          refine leaves_nil (n := 98) (rs := [.tmp 4, .tmp 5]) (vs := [(.pointer none), (.int .i64 150)]) rfl ⟨⟨by decide, rfl⟩, ⟨by decide, rfl⟩, trivial⟩ ?_
          exact ⟨none, 150, rfl, by rw [aEnd_err hlong (aRun_err ho hrun (aStep_wrong hrt))]; exact ⟨rfl, rfl⟩, (Ext.trans (Ext.chg1 (Ext.trans e_f1 e1) e2 (by omega)) e3)⟩
        · skip
          have h3' := h3
          try simp only [Bool.or_eq_true, Bool.and_eq_true, decide_eq_true_eq, Bool.or_eq_false_iff, Bool.and_eq_false_iff, decide_eq_false_iff_not, Bool.not_eq_true', Bool.not_eq_false'] at h3'
          have hrt : rightD o := by simpa using h3
          refine xc_skip ?_
          refine xc_seq ?_
          refine xc_region ?_
          refine xl_op (P := Try.prog) (some 29) rfl rfl (ox_fieldAddr (b := w1.heap.size) (o := 0) tF_88_0 rfl ?_)
          refine xl_op (P := Try.prog) (some 30) rfl rfl (ox_load (v := (.int .i64 o.d)) tA_3 rfl ((b2.ext e3).cell rfl) ?_)
          refine xl_nil ?_
          refine xc_block ?_
          refine xc_seq ?_
          refine xc_region ?_
          refine xl_op (P := Try.prog) (some 70) rfl rfl (ox_eql (k := .i64) (a := o.d) (b := 1) rfl rfl ?_)
          refine xl_op (P := Try.prog) (some 69) rfl rfl (ox_assign (v := (.bool (decide ((o.d : Int) = 1)))) rfl ?_)
          refine xl_nil ?_
          refine xc_if (p := (o.d : Int) = 1) rfl (fun h4 => ?_) (fun h4 => ?_)
          · skip
            have hd1 : o.d = 1 := h4
            refine xc_seq ?_
            refine xc_region ?_
            refine xl_op (P := Try.prog) (some 72) rfl rfl (ox_move (v := (.pointer (some ⟨ra.b, 0, none⟩))) g0_f1 ?_)
            refine xl_op (P := Try.prog) (some 73) rfl rfl (ox_fieldAddr (b := w1.heap.size) (o := 0) tF_88_1 rfl ?_)
            refine xl_op (P := Try.prog) (some 74) rfl rfl (ox_load (v := (.int .i64 o.id)) tA_3 rfl ((b2.ext e3).cell rfl) ?_)
            refine xl_op (P := Try.prog) (some 75) rfl rfl (ox_callE (al := [(.pointer (some ⟨ra.b, 0, none⟩)), (.int .i64 o.id)]) pf_56 rfl (ret_mono (find_calls ra o.id w4 (hP.ext (Ext.trans (Ext.chg1 (Ext.trans e_f1 e1) e2 (by omega)) e3)) hs) ?_))
            rintro _ _ ⟨rfl, rfl⟩
            refine xl_op (P := Try.prog) (some 71) rfl rfl (ox_move (v := (.tuple #[(.pointer (((findT o.id ra).map fun y => ⟨y.b, 0, none⟩))), (.bool ((findT o.id ra).isSome))])) rfl ?_)
            refine xl_op (P := Try.prog) (some 76) rfl rfl (ox_extract (vs := #[(.pointer (((findT o.id ra).map fun y => ⟨y.b, 0, none⟩))), (.bool ((findT o.id ra).isSome))]) (v := (.pointer (((findT o.id ra).map fun y => ⟨y.b, 0, none⟩)))) rfl rfl ?_)
            refine xl_op (P := Try.prog) (some 77) rfl rfl (ox_extract (vs := #[(.pointer (((findT o.id ra).map fun y => ⟨y.b, 0, none⟩))), (.bool ((findT o.id ra).isSome))]) (v := (.bool ((findT o.id ra).isSome))) rfl rfl ?_)
            refine xl_op (P := Try.prog) (some 9) rfl rfl (ox_assign (v := (.pointer (((findT o.id ra).map fun y => ⟨y.b, 0, none⟩)))) rfl ?_)
            refine xl_op (P := Try.prog) (some 10) rfl rfl (ox_assign (v := (.bool ((findT o.id ra).isSome))) rfl ?_)
            refine xl_nil ?_
            refine xc_seq ?_
            refine xc_seq ?_
            refine xc_region ?_
            refine xl_op (P := Try.prog) (some 78) rfl rfl (ox_move (v := (.bool ((findT o.id ra).isSome))) rfl ?_)
            refine xl_op (P := Try.prog) (some 79) rfl rfl (ox_not (b := (((findT o.id ra).isSome))) rfl ?_)
            refine xl_nil ?_
            refine xc_cond (b := (!((findT o.id ra).isSome))) rfl (fun h5 => ?_) (fun h5 => ?_)
            · skip
              have h5' := h5
              try simp only [Bool.or_eq_true, Bool.and_eq_true, decide_eq_true_eq, Bool.or_eq_false_iff, Bool.and_eq_false_iff, decide_eq_false_iff_not, Bool.not_eq_true', Bool.not_eq_false'] at h5'
              have hy : findT o.id ra = none := by cases hq : findT o.id ra with | none => rfl | some y => (rw [hq] at h5; simp at h5)
              refine xc_seq ?_
              refine xc_region ?_
              refine xl_op (P := Try.prog) (some 4) rfl rfl (ox_assign (v := (.pointer none)) rfl ?_)
              refine xl_op (P := Try.prog) (some 5) rfl rfl (ox_assign (v := (.int .i64 150)) rfl ?_)
              refine xl_nil ?_
              refine xc_ret ?_
              change leaves _ _ _ _ _ _ _
              refine leaves_nil (n := 98) (rs := [.tmp 4, .tmp 5]) (vs := [(.pointer none), (.int .i64 150)]) rfl ⟨⟨by decide, rfl⟩, ⟨by decide, rfl⟩, trivial⟩ ?_
              exact ⟨none, 150, rfl, by rw [aEnd_err hlong (aRun_err ho hrun (aStep_lost hrt hd1 (by simp only [hy]; rfl)))]; exact ⟨rfl, rfl⟩, (Ext.trans (Ext.chg1 (Ext.trans e_f1 e1) e2 (by omega)) e3)⟩
            · skip
              have h5' := h5
              try simp only [Bool.or_eq_true, Bool.and_eq_true, decide_eq_true_eq, Bool.or_eq_false_iff, Bool.and_eq_false_iff, decide_eq_false_iff_not, Bool.not_eq_true', Bool.not_eq_false'] at h5'
              obtain ⟨y, hy⟩ : ∃ y, findT o.id ra = some y := by cases hq : findT o.id ra with | none => (rw [hq] at h5; simp at h5) | some y => exact ⟨y, rfl⟩
              refine xc_skip ?_
              refine xc_region ?_
              refine xl_op (P := Try.prog) (some 80) rfl rfl (ox_move (v := (.slice Ao st.length co)) g6_f1 ?_)
              refine xl_op (P := Try.prog) (some 81) rfl rfl (ox_move (v := (.pointer (some ⟨y.b, 0, none⟩))) (by show Value.pointer ((findT o.id ra).map fun y => ⟨y.b, 0, none⟩) = _; rw [hy]; rfl) ?_)
              refine xl_op (P := Try.prog) (some 82) rfl rfl (ox_mkSlice (ps := [(0, (.pointer (some ⟨y.b, 0, none⟩)))]) (zs := #[(.pointer none)]) (cs := #[(.pointer (some ⟨y.b, 0, none⟩))]) tE_29 rfl (by decide) (by kernel_rfl) (by kernel_rfl) ?_)
              intro w5 e4 z3 b3
              replace b3 : Blk w5 w4.heap.size #[(.pointer (some ⟨y.b, 0, none⟩))] 38 := b3
              have hpx : PR w5 y := (nodes_PR hP y (findT_some hy).1).ext (Ext.trans (Ext.trans (Ext.chg1 (Ext.trans e_f1 e1) e2 (by omega)) e3) e4)
              have hly := PR.lt (nodes_PR hP y (findT_some hy).1)
              have hun : ∀ b ∈ blocks y, ((.slice Ao st.length co) : Value).ownBlock ≠ some b := fun b hb hh => by have h1 := hly b hb; have h2 := lo_f1 b hh; omega
              have q1 := (PRL.keep e2 (PRL.ext pr_f1 e1) (fun b hb hh => PRL.off b1 (by decide) (by decide) (PRL.ext pr_f1 e1) b hb hh))
              have hlA := PRL.lt (PRL.ext (PRL.ext q1 e3) e4)
              have hlX := PR.lt hpx
              have q2 := ((o_f1.ext e1).keep1 e2 (fun k hk => (o_f1.ext e1).ne_blk b1 (by decide) k hk))
              refine xl_op (P := Try.prog) (some 83) rfl rfl (ox_append (n := st.length) (g := w4.heap.size) (o := 0) (m := 1) (xs := ((st.map T.ptr))) (news := ([(.pointer (some ⟨y.b, 0, none⟩))])) rfl tE_29 rfl (by decide) (v := (.slice Ao st.length co)) rfl rfl ((q2.ext e3).ext e4) rfl b3.all rfl (by omega) (by omega) ?_)
              intro v1 w6 o1 e5 at1 nil1
              have he5 := e5.size
              obtain ⟨A1, c1, rfl, hc1⟩ := o1.shape
              have low1 : ∀ _k, (Value.slice A1 (st.length + 1) c1).ownBlock = some _k → w.heap.size ≤ _k := fun _k _h => by rcases at1 with _e | _e <;> rw [_e] at _h; exact lo_f1 _k _h; exact (by cases _h; omega)
              have nb2 := nb_snoc (l := st) at1 nb_f1 hun hlA hlX
              refine xl_op (P := Try.prog) (some 6) rfl rfl (ox_assign (v := (.slice A1 (st.length + 1) c1)) rfl ?_)
              refine xl_nil ?_
              refine xc_region ?_
              refine xl_op (P := Try.prog) (some 20) rfl rfl (ox_move (v := (.int .i64 ((i : Nat)))) g7_f1 ?_)
              refine xl_op (P := Try.prog) (some 21) rfl rfl (ox_add64 (a := ((i : Nat))) (b := 1) rfl rfl (by omega) ?_)
              refine xl_op (P := Try.prog) (some 7) rfl rfl (ox_assign (v := (.int .i64 ((i : Nat) + 1))) rfl ?_)
              refine xl_nil ?_
              have ho9 := o1
              have q3 := (PRL.keep e5 (PRL.ext (PRL.ext q1 e3) e4) (fun b hb hh => nb_f1 b hb hh))
              have hp9 := q3
              have q4 := (PR.keep e5 hpx (fun b hb hh => hun b hb hh))
              have hx9 := q4
              have hsz0 := e1.size
              have hsz1 := e2.size
              have hsz2 := e3.size
              have hsz3 := e4.size
              have hsz4 := e5.size
              have hl9 : (st ++ [y]).length = st.length + 1 := by simp
              exact ⟨rfl, l.length - (i + 1), by omega, i + 1, (st ++ [y]), A1, c1, by omega, by omega, by rw [hl9]; omega, fun y hy9 => by rcases List.mem_append.1 hy9 with h | h; exact hsz y h; simp at h; subst h; exact (by have := nodes_sz (findT_some hy).1; omega), by have h9 := aRun_on ho hrun (aStep_keep hrt hd1 (x := skel y) (by simp only [hy]; rfl)); rw [h9, List.map_append]; simp [], g0_f1, g1_f1, (by rw [hl9]; rfl), (by first | exact rfl | exact (congrArg (Value.int .i64) (by omega))), (by rw [hl9, List.map_append]; exact ho9), (PRL_snoc hp9 hx9), (by rw [hl9]; exact nb2), (by rw [hl9]; exact low1), (Chg.trans (Ext.trans (Ext.trans (Ext.chg1 (Ext.trans e_f1 e1) e2 (by omega)) e3) e4) e5 (fun b hb hl => absurd hl (by have := lo_f1 b hb; omega)))⟩
          · skip
            have hd1 : o.d ≠ 1 := h4
            refine xc_seq ?_
            refine xc_region ?_
            refine xl_op (P := Try.prog) (some 85) rfl rfl (ox_eql (k := .i64) (a := o.d) (b := 2) rfl rfl ?_)
            refine xl_op (P := Try.prog) (some 84) rfl rfl (ox_assign (v := (.bool (decide ((o.d : Int) = 2)))) rfl ?_)
            refine xl_nil ?_
            refine xc_if (p := (o.d : Int) = 2) rfl (fun h6 => ?_) (fun h6 => ?_)
            · skip
              have hd2 : o.d = 2 := h6
              refine xc_region ?_
              refine xl_op (P := Try.prog) (some 86) rfl rfl (ox_move (v := (.slice Ao st.length co)) g6_f1 ?_)
              refine xl_op (P := Try.prog) (some 87) rfl rfl (ox_fieldAddr (b := w1.heap.size) (o := 0) tF_88_5 rfl ?_)
              refine xl_op (P := Try.prog) (some 88) rfl rfl (ox_loadN (vs := [(.int .i64 o.lf.kind), (.int .i64 o.lf.skip), (.int .i64 o.lf.len), (.int .i64 o.lf.reach)]) tA_84 tS_84 rfl rfl ⟨(b2.ext e3).cell rfl, (b2.ext e3).cell rfl, (b2.ext e3).cell rfl, (b2.ext e3).cell rfl, trivial⟩ ?_)
              have q5 := ((o_f1.ext e1).keep1 e2 (fun k hk => (o_f1.ext e1).ne_blk b1 (by decide) k hk))
              have hlto := ((q5.ext e3)).lt
              refine xl_op (P := Try.prog) (some 89) rfl rfl (ox_callE (al := [(.agg #[(.int .i64 o.lf.kind), (.int .i64 o.lf.skip), (.int .i64 o.lf.len), (.int .i64 o.lf.reach)])]) pf_43 rfl (ret_mono (one_calls o.lf w4) ?_))
              rintro _ w7 ⟨br, rfl, hbr, hbR, e6⟩
              have he6 := e6.size
              refine xl_op (P := Try.prog) (some 90) rfl rfl (ox_mkSlice (ps := [(0, (.pointer (some ⟨br, 0, none⟩)))]) (zs := #[(.pointer none)]) (cs := #[(.pointer (some ⟨br, 0, none⟩))]) tE_29 rfl (by decide) (by kernel_rfl) (by kernel_rfl) ?_)
              intro w8 e7 z4 b4
              replace b4 : Blk w8 w7.heap.size #[(.pointer (some ⟨br, 0, none⟩))] 38 := b4
              have hpx := PR_leaf (hbR.ext e7)
              have hun : ∀ b ∈ blocks (leafT br 0 o.lf), ((.slice Ao st.length co) : Value).ownBlock ≠ some b := fun b hb hh => by rw [blocks_leafT] at hb; simp at hb; subst hb; have := hlto _ hh; omega
              have q6 := (PRL.keep e2 (PRL.ext pr_f1 e1) (fun b hb hh => PRL.off b1 (by decide) (by decide) (PRL.ext pr_f1 e1) b hb hh))
              have q7 := (PRL.ext (PRL.ext (PRL.ext q6 e3) e6) e7)
              have hlA := PRL.lt q7
              have hlX := PR.lt hpx
              refine xl_op (P := Try.prog) (some 91) rfl rfl (ox_append (n := st.length) (g := w7.heap.size) (o := 0) (m := 1) (xs := ((st.map T.ptr))) (news := ([(.pointer (some ⟨br, 0, none⟩))])) rfl tE_29 rfl (by decide) (v := (.slice Ao st.length co)) rfl rfl (((q5.ext e3).ext e6).ext e7) rfl b4.all rfl (by omega) (by omega) ?_)
              intro v2 w9 o2 e8 at2 nil2
              have he8 := e8.size
              obtain ⟨A2, c2, rfl, hc2⟩ := o2.shape
              have low2 : ∀ _k, (Value.slice A2 (st.length + 1) c2).ownBlock = some _k → w.heap.size ≤ _k := fun _k _h => by rcases at2 with _e | _e <;> rw [_e] at _h; exact lo_f1 _k _h; exact (by cases _h; omega)
              have nb2 := nb_snoc (l := st) at2 nb_f1 hun hlA hlX
              refine xl_op (P := Try.prog) (some 6) rfl rfl (ox_assign (v := (.slice A2 (st.length + 1) c2)) rfl ?_)
              refine xl_nil ?_
              refine xc_region ?_
              refine xl_op (P := Try.prog) (some 20) rfl rfl (ox_move (v := (.int .i64 ((i : Nat)))) g7_f1 ?_)
              refine xl_op (P := Try.prog) (some 21) rfl rfl (ox_add64 (a := ((i : Nat))) (b := 1) rfl rfl (by omega) ?_)
              refine xl_op (P := Try.prog) (some 7) rfl rfl (ox_assign (v := (.int .i64 ((i : Nat) + 1))) rfl ?_)
              refine xl_nil ?_
              have ho9 := o2
              have q8 := (PRL.keep e8 q7 (fun b hb hh => nb_f1 b hb hh))
              have hp9 := q8
              have q9 := (PR.keep e8 hpx (fun b hb hh => hun b hb hh))
              have hx9 := q9
              have hsz0 := e1.size
              have hsz1 := e2.size
              have hsz2 := e3.size
              have hsz3 := e6.size
              have hsz4 := e7.size
              have hsz5 := e8.size
              have hl9 : (st ++ [(leafT br 0 o.lf)]).length = st.length + 1 := by simp
              exact ⟨rfl, l.length - (i + 1), by omega, i + 1, (st ++ [(leafT br 0 o.lf)]), A2, c2, by omega, by omega, by rw [hl9]; omega, fun y hy9 => by rcases List.mem_append.1 hy9 with h | h; exact hsz y h; simp at h; subst h; exact (by rw [sz_leafT]; omega), by have h9 := aRun_on ho hrun (aStep_leaf hrt hd2); rw [h9, List.map_append]; simp [leafT, skel, skelL], g0_f1, g1_f1, (by rw [hl9]; rfl), (by first | exact rfl | exact (congrArg (Value.int .i64) (by omega))), (by rw [hl9, List.map_append]; exact ho9), (PRL_snoc hp9 hx9), (by rw [hl9]; exact nb2), (by rw [hl9]; exact low2), (Chg.trans (Ext.trans (Ext.trans (Ext.trans (Ext.chg1 (Ext.trans e_f1 e1) e2 (by omega)) e3) e6) e7) e8 (fun b hb hl => absurd hl (by have := lo_f1 b hb; omega)))⟩
            · skip
              have hd2 : o.d ≠ 2 := h6
              refine xc_seq ?_
              refine xc_seq ?_
              refine xc_region ?_
              refine xl_op (P := Try.prog) (some 31) rfl rfl (ox_fieldAddr (b := w1.heap.size) (o := 0) tF_88_4 rfl ?_)
              refine xl_op (P := Try.prog) (some 32) rfl rfl (ox_load (v := (.int .i64 o.kids)) tA_3 rfl ((b2.ext e3).cell rfl) ?_)
              refine xl_op (P := Try.prog) (some 33) rfl rfl (ox_lss (k := .i64) (a := o.kids) (b := 0) rfl rfl ?_)
              refine xl_op (P := Try.prog) (some 34) rfl rfl (ox_move (v := (.bool (decide ((o.kids : Int) < 0)))) rfl ?_)
              refine xl_may (P := Try.prog) (some 35) (j := 3) (b := false) (((decide ((o.kids : Int) < 0))) = false) (.bool (decide ((o.kids : Int) < 0))) (.pointer (some ⟨w1.heap.size, 4, none⟩)) rfl rfl rfl (may_b ((decide ((o.kids : Int) < 0))) false) (fun hp => ox_fieldAddr (b := w1.heap.size) (o := 0) tF_88_4 rfl ⟨rfl, rfl⟩) ?_
              refine xl_may (P := Try.prog) (some 36) (j := 3) (b := false) (((decide ((o.kids : Int) < 0))) = false) (.bool (decide ((o.kids : Int) < 0))) (.int .i64 o.kids) rfl rfl rfl (may_b ((decide ((o.kids : Int) < 0))) false) (fun hp => ox_load (v := (.int .i64 o.kids)) tA_3 (if_pos (α := Value) (t := (.pointer (some ⟨w1.heap.size, 4, none⟩))) (e := undef) hp) ((b2.ext e3).cell rfl) ⟨rfl, rfl⟩) ?_
              refine xl_may (P := Try.prog) (some 37) (j := 3) (b := false) (((decide ((o.kids : Int) < 0))) = false) (.bool (decide ((o.kids : Int) < 0))) (.slice Ao st.length co) rfl rfl rfl (may_b ((decide ((o.kids : Int) < 0))) false) (fun hp => ox_move (v := (.slice Ao st.length co)) g6_f1 ⟨rfl, rfl⟩) ?_
              refine xl_may (P := Try.prog) (some 38) (j := 3) (b := false) (((decide ((o.kids : Int) < 0))) = false) (.bool (decide ((o.kids : Int) < 0))) (.int .i64 (((st.length : Nat) : Int))) rfl rfl rfl (may_b ((decide ((o.kids : Int) < 0))) false) (fun hp => ox_len (A := Ao) (n := st.length) (cp := co) rfl tU_29 (if_pos (α := Value) (t := (.slice Ao st.length co)) (e := undef) hp) ⟨rfl, rfl⟩) ?_
              refine xl_may (P := Try.prog) (some 39) (j := 3) (b := false) (((decide ((o.kids : Int) < 0))) = false) (.bool (decide ((o.kids : Int) < 0))) (.bool (decide ((((st.length : Nat) : Int) : Int) < o.kids))) rfl rfl rfl (may_b ((decide ((o.kids : Int) < 0))) false) (fun hp => ox_gtr (k := .i64) (a := o.kids) (b := (((st.length : Nat) : Int))) (if_pos (α := Value) (t := (.int .i64 o.kids)) (e := undef) hp) (if_pos (α := Value) (t := (.int .i64 (((st.length : Nat) : Int)))) (e := undef) hp) ⟨rfl, rfl⟩) ?_
              refine xl_op (P := Try.prog) (some 40) rfl rfl (ox_pick_or (a := ((decide ((o.kids : Int) < 0)))) (b := ((decide ((((st.length : Nat) : Int) : Int) < o.kids)))) rfl rfl (fun ha => (if_pos (α := Value) (t := (.bool (decide ((((st.length : Nat) : Int) : Int) < o.kids)))) (e := undef) ha)) ?_)
              refine xl_nil ?_
              refine xc_cond (b := (((decide ((o.kids : Int) < 0))) || ((decide ((((st.length : Nat) : Int) : Int) < o.kids))))) rfl (fun h7 => ?_) (fun h7 => ?_)
              · skip
                have h7' := h7
                try simp only [Bool.or_eq_true, Bool.and_eq_true, decide_eq_true_eq, Bool.or_eq_false_iff, Bool.and_eq_false_iff, decide_eq_false_iff_not, Bool.not_eq_true', Bool.not_eq_false'] at h7'
                have hfw : o.kids < 0 ∨ ((st.map skel).length : Int) < o.kids := by rw [List.length_map]; omega
                refine xc_seq ?_
                refine xc_region ?_
                refine xl_op (P := Try.prog) (some 4) rfl rfl (ox_assign (v := (.pointer none)) rfl ?_)
                refine xl_op (P := Try.prog) (some 5) rfl rfl (ox_assign (v := (.int .i64 150)) rfl ?_)
                refine xl_nil ?_
                refine xc_ret ?_
                change leaves _ _ _ _ _ _ _
                refine leaves_nil (n := 98) (rs := [.tmp 4, .tmp 5]) (vs := [(.pointer none), (.int .i64 150)]) rfl ⟨⟨by decide, rfl⟩, ⟨by decide, rfl⟩, trivial⟩ ?_
                exact ⟨none, 150, rfl, by rw [aEnd_err hlong (aRun_err ho hrun (aStep_few hrt hd1 hd2 hfw))]; exact ⟨rfl, rfl⟩, (Ext.trans (Ext.chg1 (Ext.trans e_f1 e1) e2 (by omega)) e3)⟩
              · skip
                have h7' := h7
                try simp only [Bool.or_eq_true, Bool.and_eq_true, decide_eq_true_eq, Bool.or_eq_false_iff, Bool.and_eq_false_iff, decide_eq_false_iff_not, Bool.not_eq_true', Bool.not_eq_false'] at h7'
                have hfw : ¬ (o.kids < 0 ∨ ((st.map skel).length : Int) < o.kids) := by rw [List.length_map]; omega
                obtain ⟨q, hq⟩ : ∃ q : Nat, q = st.length - o.kids.toNat := ⟨_, rfl⟩
                have q10 := ((o_f1.ext e1).keep1 e2 (fun k hk => (o_f1.ext e1).ne_blk b1 (by decide) k hk))
                have hcap := own_cap (q10.ext e3)
                have hml : (st.map skel).length = st.length := List.length_map _
                have hqs : q ≤ st.length := by omega
                have hqm : q = (st.map skel).length - o.kids.toNat := by rw [List.length_map]; exact hq
                refine xc_skip ?_
                refine xc_seq ?_
                refine xc_regionE [] (fun W_ => Chg (fun _ => False) w4 W_) hmix ?_
                intro w10 e9 z5
                have hS1 : Chg (fun _ => False) w4 w10 := Ext.to e9
                refine xd_pure 0 (some 42) rfl rfl (by kernel_rfl) (v := (.pointer (some ⟨w1.heap.size, 2, none⟩))) (.inl ⟨rfl, fun W_ hW_ => ox_fieldAddr (b := w1.heap.size) (o := 0) tF_88_2 rfl ⟨rfl, rfl⟩⟩) ?_
                refine xd_take 1 (some 43) rfl rfl (by kernel_rfl) (v := (.int .i64 o.kind)) (.inl ⟨rfl, fun W_ hW_ => ox_load (v := (.int .i64 o.kind)) tA_3 rfl (((b2.ext e3).ext hW_).cell rfl) ⟨rfl, rfl⟩⟩) hS1 ?_
                refine xd_pure 2 (some 44) rfl rfl (by kernel_rfl) (v := (.pointer (some ⟨w1.heap.size, 3, none⟩))) (.inl ⟨rfl, fun W_ hW_ => ox_fieldAddr (b := w1.heap.size) (o := 0) tF_88_3 rfl ⟨rfl, rfl⟩⟩) ?_
                refine xd_take 3 (some 45) rfl rfl (by kernel_rfl) (v := (.int .i64 o.n)) (.inl ⟨rfl, fun W_ hW_ => ox_load (v := (.int .i64 o.n)) tA_3 rfl (((b2.ext e3).ext hW_).cell rfl) ⟨rfl, rfl⟩⟩) hS1 ?_
                refine xd_pure 4 (some 46) rfl rfl (by kernel_rfl) (v := (.slice Ao st.length co)) (.inl ⟨rfl, fun W_ hW_ => ox_move (v := (.slice Ao st.length co)) g6_f1 ⟨rfl, rfl⟩⟩) ?_
                refine xd_pure 5 (some 47) rfl rfl (by kernel_rfl) (v := (.slice Ao st.length co)) (.inl ⟨rfl, fun W_ hW_ => ox_move (v := (.slice Ao st.length co)) g6_f1 ⟨rfl, rfl⟩⟩) ?_
                refine xd_pure 6 (some 48) rfl rfl (by kernel_rfl) (v := (.int .i64 (((st.length : Nat) : Int)))) (.inl ⟨rfl, fun W_ hW_ => ox_len (A := Ao) (n := st.length) (cp := co) rfl tU_29 rfl ⟨rfl, rfl⟩⟩) ?_
                refine xd_pure 7 (some 49) rfl rfl (by kernel_rfl) (v := (.pointer (some ⟨w1.heap.size, 4, none⟩))) (.inl ⟨rfl, fun W_ hW_ => ox_fieldAddr (b := w1.heap.size) (o := 0) tF_88_4 rfl ⟨rfl, rfl⟩⟩) ?_
                refine xd_take 8 (some 50) rfl rfl (by kernel_rfl) (v := (.int .i64 o.kids)) (.inl ⟨rfl, fun W_ hW_ => ox_load (v := (.int .i64 o.kids)) tA_3 rfl (((b2.ext e3).ext hW_).cell rfl) ⟨rfl, rfl⟩⟩) hS1 ?_
                refine xd_pure 9 (some 51) rfl rfl (by kernel_rfl) (v := (.int .i64 (((st.length : Nat) : Int) - o.kids))) (.inl ⟨rfl, fun W_ hW_ => ox_sub64 (a := (((st.length : Nat) : Int))) (b := o.kids) rfl rfl (by omega) ⟨rfl, rfl⟩⟩) ?_
                refine xd_pure 10 (some 52) rfl rfl (by kernel_rfl) (v := (.slice ((sfA Ao co q 1)) ((st.length - q)) ((co - q)))) (.inl ⟨rfl, fun W_ hW_ => ox_sliceFromV (A := Ao) (n := st.length) (cp := co) (i := (((st.length : Nat) : Int) - o.kids)) q tE_29 rfl rfl (by omega) (by omega) ⟨rfl, rfl⟩⟩) ?_
                have hlto := (((q10.ext e3).ext e9)).lt
                have hrw := RowA.from (n := st.length) (cp := co) (sz := 1) q hqs (own_cap ((q10.ext e3).ext e9)) (Own.rowO ((q10.ext e3).ext e9)) (by simp)
                rw [Nat.mul_one, ← List.map_drop] at hrw
                have q11 := (PRL.keep e2 (PRL.ext pr_f1 e1) (fun b hb hh => PRL.off b1 (by decide) (by decide) (PRL.ext pr_f1 e1) b hb hh))
                refine xd_one 11 (some 53) rfl rfl (by kernel_rfl) rfl (ox_callE (al := [(.int .i64 o.kind), (.int .i64 o.n), (.slice ((sfA Ao co q 1)) ((st.length - q)) ((co - q)))]) pf_44 rfl (ret_mono ((by have h := made2_calls o.kind o.n (st.drop q) (sfA Ao co q 1) (co - q) w10 (PRL_of fun y hy => PRL_mem (PRL.ext (PRL.ext q11 e3) e9) (List.mem_of_mem_drop hy)) hrw (fun y hy => hsz y (List.mem_of_mem_drop hy)) (by rw [List.length_drop]; omega); rw [List.length_drop] at h; exact h)) ?_))
                rintro _ w11 ⟨o14, er, rfl, hm0, hm1, e10⟩
                have he10 := e10.size
                have hS2 : Chg (fun _ => False) w4 w11 := Chg.ext hS1 e10
                refine ⟨.inr fun _ => hS2, ?_⟩
                refine xd_pure 12 (some 41) rfl rfl (by kernel_rfl) (v := (.tuple #[(.pointer o14), (.int .i64 er)])) (.inl ⟨rfl, fun W_ hW_ => ox_move (v := (.tuple #[(.pointer o14), (.int .i64 er)])) rfl ⟨rfl, rfl⟩⟩) ?_
                refine xd_pure 13 (some 54) rfl rfl (by kernel_rfl) (v := (.pointer o14)) (.inl ⟨rfl, fun W_ hW_ => ox_extract (vs := #[(.pointer o14), (.int .i64 er)]) (v := (.pointer o14)) rfl rfl ⟨rfl, rfl⟩⟩) ?_
                refine xd_pure 14 (some 55) rfl rfl (by kernel_rfl) (v := (.int .i64 er)) (.inl ⟨rfl, fun W_ hW_ => ox_extract (vs := #[(.pointer o14), (.int .i64 er)]) (v := (.int .i64 er)) rfl rfl ⟨rfl, rfl⟩⟩) ?_
                refine xd_pure 15 (some 11) rfl rfl (by kernel_rfl) (v := (.pointer o14)) (.inl ⟨rfl, fun W_ hW_ => ox_assign (v := (.pointer o14)) rfl ⟨rfl, rfl⟩⟩) ?_
                refine xd_pure 16 (some 12) rfl rfl (by kernel_rfl) (v := (.int .i64 er)) (.inl ⟨rfl, fun W_ hW_ => ox_assign (v := (.int .i64 er)) rfl ⟨rfl, rfl⟩⟩) ?_
                refine xd_done (by kernel_rfl) ?_ _
                refine xc_seq ?_
                refine xc_seq ?_
                refine xc_region ?_
                refine xl_op (P := Try.prog) (some 56) rfl rfl (ox_move (v := (.int .i64 er)) rfl ?_)
                refine xl_op (P := Try.prog) (some 57) rfl rfl (ox_neq (k := .i64) (a := er) (b := 0) rfl rfl ?_)
                refine xl_nil ?_
                refine xc_if (p := (er : Int) ≠ 0) rfl (fun h8 => ?_) (fun h8 => ?_)
                · skip
                  have her := hm1 h8
                  clear hm0 hm1
                  refine xc_seq ?_
                  refine xc_region ?_
                  refine xl_op (P := Try.prog) (some 58) rfl rfl (ox_move (v := (.int .i64 er)) rfl ?_)
                  refine xl_op (P := Try.prog) (some 4) rfl rfl (ox_assign (v := (.pointer none)) rfl ?_)
                  refine xl_op (P := Try.prog) (some 5) rfl rfl (ox_assign (v := (.int .i64 er)) rfl ?_)
                  refine xl_nil ?_
                  refine xc_ret ?_
                  change leaves _ _ _ _ _ _ _
                  refine leaves_nil (n := 98) (rs := [.tmp 4, .tmp 5]) (vs := [(.pointer none), (.int .i64 er)]) rfl ⟨⟨by decide, rfl⟩, ⟨by decide, rfl⟩, trivial⟩ ?_
                  rcases her with ⟨hb9, _, rfl⟩ | ⟨hb9, hz9, _, rfl⟩
                  · exact ⟨none, 101, rfl, by rw [aEnd_err hlong (aRun_err ho hrun (aStep_bad hrt hd1 hd2 hfw hb9))]; exact ⟨rfl, rfl⟩, (Ext.trans (Ext.trans (Ext.trans (Ext.chg1 (Ext.trans e_f1 e1) e2 (by omega)) e3) e9) e10)⟩
                  · exact ⟨none, 6, rfl, by rw [aEnd_err hlong (aRun_err ho hrun (aStep_full hrt hd1 hd2 hfw hb9 q hqm (by rw [← List.map_drop, szL_skel]; exact hz9)))]; exact ⟨rfl, rfl⟩, (Ext.trans (Ext.trans (Ext.trans (Ext.chg1 (Ext.trans e_f1 e1) e2 (by omega)) e3) e9) e10)⟩
                · skip
                  have her : er = 0 := by omega
                  obtain ⟨hnb, hz5, bm, kb, kcb, rfl, hbm, hkb, hbM, hcb, hrb⟩ := hm0 her
                  clear hm0 hm1
                  refine xc_skip ?_
                  refine xc_region ?_
                  refine xl_op (P := Try.prog) (some 59) rfl rfl (ox_move (v := (.slice Ao st.length co)) g6_f1 ?_)
                  refine xl_op (P := Try.prog) (some 60) rfl rfl (ox_move (v := (.slice Ao st.length co)) g6_f1 ?_)
                  refine xl_op (P := Try.prog) (some 61) rfl rfl (ox_len (A := Ao) (n := st.length) (cp := co) rfl tU_29 rfl ?_)
                  refine xl_op (P := Try.prog) (some 62) rfl rfl (ox_fieldAddr (b := w1.heap.size) (o := 0) tF_88_4 rfl ?_)
                  refine xl_op (P := Try.prog) (some 63) rfl rfl (ox_load (v := (.int .i64 o.kids)) tA_3 rfl ((((b2.ext e3).ext e9).ext e10).cell rfl) ?_)
                  refine xl_op (P := Try.prog) (some 64) rfl rfl (ox_sub64 (a := (((st.length : Nat) : Int))) (b := o.kids) rfl rfl (by omega) ?_)
                  refine xl_op (P := Try.prog) (some 65) rfl rfl (ox_sliceToN (A := Ao) (cp := co) (i := (((st.length : Nat) : Int) - o.kids)) q tE_29 rfl rfl (by omega) (by omega) (by omega) ?_)
                  refine xl_op (P := Try.prog) (some 66) rfl rfl (ox_move (v := (.pointer (some ⟨bm, 0, none⟩))) rfl ?_)
                  refine xl_op (P := Try.prog) (some 67) rfl rfl (ox_mkSlice (ps := [(0, (.pointer (some ⟨bm, 0, none⟩)))]) (zs := #[(.pointer none)]) (cs := #[(.pointer (some ⟨bm, 0, none⟩))]) tE_29 rfl (by decide) (by kernel_rfl) (by kernel_rfl) ?_)
                  intro w12 e11 z6 b5
                  replace b5 : Blk w12 w11.heap.size #[(.pointer (some ⟨bm, 0, none⟩))] 38 := b5
                  have hrb2 : rowR w12 kb (st.drop q) := (rowR.ext hrb e11)
                  have hbM2 := (hbM.ext e11)
                  have q12 := (PRL.ext (PRL.ext (PRL.ext q11 e3) e9) e10)
                  have hpx : PR w12 (T.mk bm kb kcb 0 o.kind o.n lf0 (st.drop q)) := PR_mk (by rw [List.length_drop]; exact hbM2) (by rw [List.length_drop]; exact hcb) hrb2 (PRL_of fun y hy => PRL_mem (PRL.ext q12 e11) (List.mem_of_mem_drop hy))
                  have q13 := ((((q10.ext e3).ext e9).ext e10).ext e11)
                  have hot := (q13).take (m := q) (by omega)
                  rw [Nat.mul_one, ← List.map_take] at hot
                  have nbt : ∀ b ∈ blocksL (st.take q), ((.slice Ao q co) : Value).ownBlock ≠ some b := fun b hb hh => nb_f1 b (blocksL_sub (fun y hy => List.mem_of_mem_take hy) hb) (ownBlock_len hh)
                  have lot : ∀ k, ((.slice Ao q co) : Value).ownBlock = some k → w.heap.size ≤ k := fun k hk => lo_f1 k (ownBlock_len hk)
                  have hun : ∀ b ∈ blocks (T.mk bm kb kcb 0 o.kind o.n lf0 (st.drop q)), ((.slice Ao q co) : Value).ownBlock ≠ some b := fun b hb hh => (nb_new hbm hkb hlto (fun y hy => List.mem_of_mem_drop hy) nb_f1) b hb (ownBlock_len hh)
                  have hlA := PRL.lt (PRL.ext q12 e11)
                  have hlX := PR.lt hpx
                  refine xl_op (P := Try.prog) (some 68) rfl rfl (ox_append (n := q) (g := w11.heap.size) (o := 0) (m := 1) (xs := (((st.take q).map T.ptr))) (news := ([(.pointer (some ⟨bm, 0, none⟩))])) rfl tE_29 rfl (by decide) (v := (.slice Ao q co)) rfl rfl hot rfl b5.all rfl (by omega) (by omega) ?_)
                  intro v3 w13 o3 e12 at3 nil3
                  have he12 := e12.size
                  obtain ⟨A3, c3, rfl, hc3⟩ := o3.shape
                  have low3 : ∀ _k, (Value.slice A3 (q + 1) c3).ownBlock = some _k → w.heap.size ≤ _k := fun _k _h => by rcases at3 with _e | _e <;> rw [_e] at _h; exact lot _k _h; exact (by cases _h; omega)
                  have nb2 := nb_snoc (l := st.take q) at3 nbt hun (fun b hb => hlA b (blocksL_sub (fun y hy => List.mem_of_mem_take hy) hb)) hlX
                  refine xl_op (P := Try.prog) (some 6) rfl rfl (ox_assign (v := (.slice A3 (q + 1) c3)) rfl ?_)
                  refine xl_nil ?_
                  refine xc_region ?_
                  refine xl_op (P := Try.prog) (some 20) rfl rfl (ox_move (v := (.int .i64 ((i : Nat)))) g7_f1 ?_)
                  refine xl_op (P := Try.prog) (some 21) rfl rfl (ox_add64 (a := ((i : Nat))) (b := 1) rfl rfl (by omega) ?_)
                  refine xl_op (P := Try.prog) (some 7) rfl rfl (ox_assign (v := (.int .i64 ((i : Nat) + 1))) rfl ?_)
                  refine xl_nil ?_
                  have ho9 := o3
                  have q14 := (PRL.keep e12 (PRL.ext q12 e11) (fun b hb hh => nb_f1 b hb (ownBlock_len hh)))
                  have hp9 := q14
                  have q15 := (PR.keep e12 hpx (fun b hb hh => hun b hb hh))
                  have hx9 := q15
                  have hsz0 := e1.size
                  have hsz1 := e2.size
                  have hsz2 := e3.size
                  have hsz3 := e9.size
                  have hsz4 := e10.size
                  have hsz5 := e11.size
                  have hsz6 := e12.size
                  have hl9 : ((st.take q) ++ [(T.mk bm kb kcb 0 o.kind o.n lf0 (st.drop q))]).length = q + 1 := by simp; omega
                  exact ⟨rfl, l.length - (i + 1), by omega, i + 1, ((st.take q) ++ [(T.mk bm kb kcb 0 o.kind o.n lf0 (st.drop q))]), A3, c3, by omega, by omega, by rw [hl9]; omega, fun y hy9 => by rcases List.mem_append.1 hy9 with h | h; exact hsz y (List.mem_of_mem_take h); simp at h; subst h; exact (by simp only [sz]; omega), by have h9 := aRun_on ho hrun (aStep_make hrt hd1 hd2 hfw hnb q hqm (by rw [← List.map_drop, szL_skel]; omega)); rw [h9, List.map_append]; simp [skel_mk0, List.map_drop, List.map_take], g0_f1, g1_f1, (by rw [hl9]; rfl), (by first | exact rfl | exact (congrArg (Value.int .i64) (by omega))), (by rw [hl9, List.map_append]; exact ho9), (PRL_snoc (PRL_of fun y hy9 => PRL_mem hp9 (List.mem_of_mem_take hy9)) hx9), (by rw [hl9]; exact nb2), (by rw [hl9]; exact low3), (Chg.trans (Ext.trans (Ext.trans (Ext.trans (Ext.trans (Ext.chg1 (Ext.trans e_f1 e1) e2 (by omega)) e3) e9) e10) e11) e12 (fun b hb hl => absurd hl (by have := lot b hb; omega)))⟩
      · skip
        have hiq : l.length ≤ i := by omega
        refine xc_exit ?_
        refine xc_seq ?_
        refine xc_seq ?_
        refine xc_region ?_
        refine xl_op (P := Try.prog) (some 92) rfl rfl (ox_move (v := (.slice Ao st.length co)) g6_f1 ?_)
        refine xl_op (P := Try.prog) (some 93) rfl rfl (ox_len (A := Ao) (n := st.length) (cp := co) rfl tU_29 rfl ?_)
        refine xl_op (P := Try.prog) (some 94) rfl rfl (ox_neq (k := .i64) (a := (((st.length : Nat) : Int))) (b := 1) rfl rfl ?_)
        refine xl_nil ?_
        refine xc_if (p := (((st.length : Nat) : Int) : Int) ≠ 1) rfl (fun h9 => ?_) (fun h9 => ?_)
        · skip
          have hdone := aRun_done hiq hrun
          have hmn : (st.map skel).length ≠ 1 := by rw [List.length_map]; omega
          refine xc_seq ?_
          refine xc_region ?_
          refine xl_op (P := Try.prog) (some 4) rfl rfl (ox_assign (v := (.pointer none)) rfl ?_)
          refine xl_op (P := Try.prog) (some 5) rfl rfl (ox_assign (v := (.int .i64 150)) rfl ?_)
          refine xl_nil ?_
          refine xc_ret ?_
          change leaves _ _ _ _ _ _ _
          refine leaves_nil (n := 98) (rs := [.tmp 4, .tmp 5]) (vs := [(.pointer none), (.int .i64 150)]) rfl ⟨⟨by decide, rfl⟩, ⟨by decide, rfl⟩, trivial⟩ ?_
          exact ⟨none, 150, rfl, by rw [aEnd_many hlong hdone hmn]; exact ⟨rfl, rfl⟩, e_f1⟩
        · skip
          have hdone := aRun_done hiq hrun
          obtain ⟨x, hstx⟩ : ∃ x, st = [x] := List.length_eq_one_iff.1 (by omega)
          obtain ⟨gx, cx, heqx, _⟩ := (o_f1).some_of (by omega)
          simp only [Value.slice.injEq, true_and] at heqx
          obtain ⟨rfl, rfl⟩ := heqx
          have hcx : w1.cell? ⟨gx, 0, none⟩ = some x.ptr := ((o_f1).cells (o := 0) (vs := [x.ptr]) (by intro j v hj; rw [hstx]; simpa using hj)).1
          refine xc_skip ?_
          refine xc_seq ?_
          refine xc_region ?_
          refine xl_op (P := Try.prog) (some 95) rfl rfl (ox_move (v := (.slice (some ⟨gx, 0, none⟩) st.length co)) g6_f1 ?_)
          refine xl_op (P := Try.prog) (some 96) rfl rfl (ox_indexAddr (b := gx) (o := 0) (i := 0) tE_29 rfl rfl (by omega) (by omega) ?_)
          refine xl_op (P := Try.prog) (some 97) rfl rfl (ox_load (v := (.pointer (some ⟨x.b, 0, none⟩))) tA_38 rfl (by simpa [T.ptr] using hcx) ?_)
          refine xl_op (P := Try.prog) (some 4) rfl rfl (ox_assign (v := (.pointer (some ⟨x.b, 0, none⟩))) rfl ?_)
          refine xl_op (P := Try.prog) (some 5) rfl rfl (ox_assign (v := (.int .i64 0)) rfl ?_)
          refine xl_nil ?_
          refine xc_ret ?_
          change leaves _ _ _ _ _ _ _
          refine leaves_nil (n := 98) (rs := [.tmp 4, .tmp 5]) (vs := [(.pointer (some ⟨x.b, 0, none⟩)), (.int .i64 0)]) rfl ⟨⟨by decide, rfl⟩, ⟨by decide, rfl⟩, trivial⟩ ?_
          have hp9 := pr_f1
          exact ⟨some ⟨x.b, 0, none⟩, 0, rfl, by rw [aEnd_one hlong (x := skel x) (by rw [hdone, hstx]; rfl)]; exact ⟨rfl, x, rfl, (by rw [hstx] at hp9; exact hp9.1), rfl, hsz x (by rw [hstx]; simp)⟩, e_f1⟩

end Go.Proofs.Ythhbnodnpajljaa
