/-
  Ranges: the sequence's making; wide; the document's Ranges. No conditions.
-/
import Derived.Test.YthhbnodnpajljaaVxi
import Derived.Test.YthhbnodnpajljaaRows
import Derived.Test.YthhbnodnpajljaaRja
import Derived.Test.YthhbnodnpajljaaFc
import Derived.Test.YthhbnodnpajljaaDb
set_option linter.unusedVariables false
set_option linter.unusedSimpArgs false
set_option maxRecDepth 100000
set_option maxHeartbeats 4000000
namespace Go.Proofs.Ythhbnodnpajljaa
open Go Go.RowKit Go.Vx


theorem pf_16 : plainF Try.prog 16 = true := by kernel_rfl
theorem pf_59 : plainF Try.prog 59 = true := by kernel_rfl
theorem tA_79 : isAggT Try.prog 79 = some true := by kernel_rfl
theorem tE_42 : sliceT Try.prog 42 = some (3, 1, 8, (.int .i64 0)) := by kernel_rfl
theorem tE_76 : sliceT Try.prog 76 = some (79, 2, 16, (.agg #[(.int .i64 0), (.int .i64 0)])) := by kernel_rfl
theorem tF_40_2 : fieldT Try.prog 40 2 = some 2 := by kernel_rfl
theorem tF_40_3 : fieldT Try.prog 40 3 = some 3 := by kernel_rfl
theorem tF_79_0 : fieldT Try.prog 79 0 = some 0 := by kernel_rfl
theorem tF_79_1 : fieldT Try.prog 79 1 = some 1 := by kernel_rfl
theorem tF_84_1 : fieldT Try.prog 84 1 = some 1 := by kernel_rfl
theorem tF_84_2 : fieldT Try.prog 84 2 = some 2 := by kernel_rfl
theorem tF_86_4 : fieldT Try.prog 86 4 = some 4 := by kernel_rfl
theorem tP_79 : placesT Try.prog 79 = some #[(0, 1), (1, 1)] := by kernel_rfl
theorem tS_79 : sizeT Try.prog 79 = some 2 := by kernel_rfl
theorem tU_34 : Try.prog.underlying 34 = some (.slice 40) := by kernel_rfl
theorem tZ_79 : zeroOf Try.prog 79 = some (.agg #[(.int .i64 0), (.int .i64 0)]) := by kernel_rfl

theorem rangesF_calls (a b : Nat) (w : World)  :
    Calls Try.prog 32 #[(.pointer (some ⟨a, 0, none⟩)), (.pointer (some ⟨b, 0, none⟩))] w (Ret (fun v w' => ∃ bx by_, v = .func (.func 58) #[] #[.pointer (some ⟨bx, 0, none⟩), .pointer (some ⟨by_, 0, none⟩)] ∧ Blk w' bx #[.pointer (some ⟨a, 0, none⟩)] 36 ∧ Blk w' by_ #[.pointer (some ⟨b, 0, none⟩)] 36 ∧ w.heap.size ≤ bx ∧ w.heap.size ≤ by_ ∧ Ext w w')) := by
  refine calls_xc (n := 6) (f := fun s_ => [(.pointer (some ⟨a, 0, none⟩)), (.pointer (some ⟨b, 0, none⟩))].getD s_ undef) Try.func32 rfl rfl (by simp) (fun s_ => by simp) ?_
  refine xc_seq ?_
  refine xc_region ?_
  refine xl_op (P := Try.prog) (some 2) rfl rfl (ox_box (v := (.pointer (some ⟨a, 0, none⟩))) rfl ?_)
  intro w1 e1 z1 b1
  replace b1 : Blk w1 w.heap.size #[(.pointer (some ⟨a, 0, none⟩))] 36 := b1
  refine xl_op (P := Try.prog) (some 3) rfl rfl (ox_box (v := (.pointer (some ⟨b, 0, none⟩))) rfl ?_)
  intro w2 e2 z2 b2
  replace b2 : Blk w2 w1.heap.size #[(.pointer (some ⟨b, 0, none⟩))] 36 := b2
  refine xl_op (P := Try.prog) (some 4) rfl rfl (ox_assign (v := .nilFunc) rfl ?_)
  refine xl_nil ?_
  refine xc_seq ?_
  refine xc_region ?_
  refine xl_op (P := Try.prog) (some 5) rfl rfl (ox_mkFunc (cs := [(.pointer (some ⟨w.heap.size, 0, none⟩)), (.pointer (some ⟨w1.heap.size, 0, none⟩))]) rfl ?_)
  refine xl_op (P := Try.prog) (some 4) rfl rfl (ox_assign (v := (.func (.func 58) #[] #[(.pointer (some ⟨w.heap.size, 0, none⟩)), (.pointer (some ⟨w1.heap.size, 0, none⟩))])) rfl ?_)
  refine xl_nil ?_
  refine xc_ret ?_
  change leaves _ _ _ _ _ _ _
  refine leaves_nil (n := 6) (rs := [.tmp 4]) (vs := [(.func (.func 58) #[] #[(.pointer (some ⟨w.heap.size, 0, none⟩)), (.pointer (some ⟨w1.heap.size, 0, none⟩))])]) rfl ⟨⟨by decide, rfl⟩, trivial⟩ ?_
  exact ⟨_, _, rfl, (b1.ext e2), b2, by omega, by omega, (Ext.trans e1 e2)⟩

theorem wide_calls (l : Lf) (w : World) (hl : True) :
    Calls Try.prog 59 #[(.agg #[(.int .i64 l.kind), (.int .i64 l.skip), (.int .i64 l.len), (.int .i64 l.reach)])] w (Ret (fun v w' => v = .int .i64 (lfw l) ∧ Ext w w')) := by
  refine calls_xc (n := 29) (f := fun s_ => [(.agg #[(.int .i64 l.kind), (.int .i64 l.skip), (.int .i64 l.len), (.int .i64 l.reach)])].getD s_ undef) Try.func59 rfl rfl (by simp) (fun s_ => by simp) ?_
  refine xc_seq ?_
  refine xc_region ?_
  refine xl_op (P := Try.prog) (some 1) rfl rfl (ox_box (v := (.agg #[(.int .i64 l.kind), (.int .i64 l.skip), (.int .i64 l.len), (.int .i64 l.reach)])) rfl ?_)
  intro w1 e1 z1 b1
  replace b1 : Blk w1 w.heap.size #[(.int .i64 l.kind), (.int .i64 l.skip), (.int .i64 l.len), (.int .i64 l.reach)] 84 := b1
  refine xl_op (P := Try.prog) (some 2) rfl rfl (ox_assign (v := (.int .i64 0)) rfl ?_)
  refine xl_nil ?_
  refine xc_seq ?_
  refine xc_region ?_
  refine xl_op (P := Try.prog) (some 3) rfl rfl (ox_assign (v := (.int .i64 0)) rfl ?_)
  refine xl_nil ?_
  refine xc_seq ?_
  refine xc_seq ?_
  refine xc_region ?_
  refine xl_op (P := Try.prog) (some 4) rfl rfl (ox_fieldAddr (b := w.heap.size) (o := 0) tF_84_1 rfl ?_)
  refine xl_op (P := Try.prog) (some 5) rfl rfl (ox_load (v := (.int .i64 l.skip)) tA_3 rfl (b1.cell rfl) ?_)
  refine xl_op (P := Try.prog) (some 6) rfl rfl (ox_geq (k := .i64) (a := l.skip) (b := 0) rfl rfl ?_)
  refine xl_op (P := Try.prog) (some 7) rfl rfl (ox_move (v := (.bool (decide ((0 : Int) ≤ l.skip)))) rfl ?_)
  by_cases h1 : (0 : Int) ≤ l.skip
  · skip
    refine xl_opg (P := Try.prog) (some 8) (j := 3) (b := true) rfl rfl (congrArg some (decide_eq_true h1)) (ox_fieldAddr (b := w.heap.size) (o := 0) tF_84_1 rfl ?_)
    refine xl_opg (P := Try.prog) (some 9) (j := 3) (b := true) rfl rfl (congrArg some (decide_eq_true h1)) (ox_load (v := (.int .i64 l.skip)) tA_3 rfl (b1.cell rfl) ?_)
    refine xl_opg (P := Try.prog) (some 10) (j := 3) (b := true) rfl rfl (congrArg some (decide_eq_true h1)) (ox_leq (k := .i64) (a := l.skip) (b := 262144) rfl rfl ?_)
    refine xl_op (P := Try.prog) (some 11) rfl rfl (ox_pick_t (v := (.bool (decide ((l.skip : Int) ≤ 262144)))) (congrArg Value.bool (decide_eq_true h1)) rfl ?_)
    refine xl_nil ?_
    refine xc_if (p := (l.skip : Int) ≤ 262144) rfl (fun h2 => ?_) (fun h2 => ?_)
    · skip
      refine xc_region ?_
      refine xl_op (P := Try.prog) (some 12) rfl rfl (ox_move (v := (.int .i64 0)) rfl ?_)
      refine xl_op (P := Try.prog) (some 13) rfl rfl (ox_fieldAddr (b := w.heap.size) (o := 0) tF_84_1 rfl ?_)
      refine xl_op (P := Try.prog) (some 14) rfl rfl (ox_load (v := (.int .i64 l.skip)) tA_3 rfl (b1.cell rfl) ?_)
      refine xl_op (P := Try.prog) (some 15) rfl rfl (ox_add64 (a := 0) (b := l.skip) rfl rfl (by omega) ?_)
      refine xl_op (P := Try.prog) (some 3) rfl rfl (ox_assign (v := (.int .i64 (0 + l.skip))) rfl ?_)
      refine xl_nil ?_
      refine xc_seq ?_
      refine xc_seq ?_
      refine xc_region ?_
      refine xl_op (P := Try.prog) (some 16) rfl rfl (ox_fieldAddr (b := w.heap.size) (o := 0) tF_84_2 rfl ?_)
      refine xl_op (P := Try.prog) (some 17) rfl rfl (ox_load (v := (.int .i64 l.len)) tA_3 rfl (b1.cell rfl) ?_)
      refine xl_op (P := Try.prog) (some 18) rfl rfl (ox_geq (k := .i64) (a := l.len) (b := 0) rfl rfl ?_)
      refine xl_op (P := Try.prog) (some 19) rfl rfl (ox_move (v := (.bool (decide ((0 : Int) ≤ l.len)))) rfl ?_)
      by_cases h3 : (0 : Int) ≤ l.len
      · skip
        refine xl_opg (P := Try.prog) (some 20) (j := 3) (b := true) rfl rfl (congrArg some (decide_eq_true h3)) (ox_fieldAddr (b := w.heap.size) (o := 0) tF_84_2 rfl ?_)
        refine xl_opg (P := Try.prog) (some 21) (j := 3) (b := true) rfl rfl (congrArg some (decide_eq_true h3)) (ox_load (v := (.int .i64 l.len)) tA_3 rfl (b1.cell rfl) ?_)
        refine xl_opg (P := Try.prog) (some 22) (j := 3) (b := true) rfl rfl (congrArg some (decide_eq_true h3)) (ox_leq (k := .i64) (a := l.len) (b := 262144) rfl rfl ?_)
        refine xl_op (P := Try.prog) (some 23) rfl rfl (ox_pick_t (v := (.bool (decide ((l.len : Int) ≤ 262144)))) (congrArg Value.bool (decide_eq_true h3)) rfl ?_)
        refine xl_nil ?_
        refine xc_if (p := (l.len : Int) ≤ 262144) rfl (fun h4 => ?_) (fun h4 => ?_)
        · skip
          refine xc_region ?_
          refine xl_op (P := Try.prog) (some 24) rfl rfl (ox_move (v := (.int .i64 (0 + l.skip))) rfl ?_)
          refine xl_op (P := Try.prog) (some 25) rfl rfl (ox_fieldAddr (b := w.heap.size) (o := 0) tF_84_2 rfl ?_)
          refine xl_op (P := Try.prog) (some 26) rfl rfl (ox_load (v := (.int .i64 l.len)) tA_3 rfl (b1.cell rfl) ?_)
          refine xl_op (P := Try.prog) (some 27) rfl rfl (ox_add64 (a := (0 + l.skip)) (b := l.len) rfl rfl (by omega) ?_)
          refine xl_op (P := Try.prog) (some 3) rfl rfl (ox_assign (v := (.int .i64 (0 + l.skip + l.len))) rfl ?_)
          refine xl_nil ?_
          refine xc_seq ?_
          refine xc_region ?_
          refine xl_op (P := Try.prog) (some 28) rfl rfl (ox_move (v := (.int .i64 (0 + l.skip + l.len))) rfl ?_)
          refine xl_op (P := Try.prog) (some 2) rfl rfl (ox_assign (v := (.int .i64 (0 + l.skip + l.len))) rfl ?_)
          refine xl_nil ?_
          refine xc_ret ?_
          change leaves _ _ _ _ _ _ _
          refine leaves_nil (n := 29) (rs := [.tmp 2]) (vs := [(.int .i64 (0 + l.skip + l.len))]) rfl ⟨⟨by decide, rfl⟩, trivial⟩ ?_
          exact ⟨congrArg (Value.int .i64) (by unfold lfw byt; (repeat' split) <;> omega), e1⟩
        · skip
          refine xc_skip ?_
          refine xc_seq ?_
          refine xc_region ?_
          refine xl_op (P := Try.prog) (some 28) rfl rfl (ox_move (v := (.int .i64 (0 + l.skip))) rfl ?_)
          refine xl_op (P := Try.prog) (some 2) rfl rfl (ox_assign (v := (.int .i64 (0 + l.skip))) rfl ?_)
          refine xl_nil ?_
          refine xc_ret ?_
          change leaves _ _ _ _ _ _ _
          refine leaves_nil (n := 29) (rs := [.tmp 2]) (vs := [(.int .i64 (0 + l.skip))]) rfl ⟨⟨by decide, rfl⟩, trivial⟩ ?_
          exact ⟨congrArg (Value.int .i64) (by unfold lfw byt; (repeat' split) <;> omega), e1⟩
      · skip
        refine xl_skip (some 20) (j := 3) (b := true) false rfl rfl (congrArg some (decide_eq_false h3)) (by decide) ?_
        refine xl_skip (some 21) (j := 3) (b := true) false rfl rfl (congrArg some (decide_eq_false h3)) (by decide) ?_
        refine xl_skip (some 22) (j := 3) (b := true) false rfl rfl (congrArg some (decide_eq_false h3)) (by decide) ?_
        refine xl_op (P := Try.prog) (some 23) rfl rfl (ox_pick_f (v := (.bool false)) (congrArg Value.bool (decide_eq_false h3)) rfl ?_)
        refine xl_nil ?_
        refine xc_cond_f rfl ?_
        refine xc_skip ?_
        refine xc_seq ?_
        refine xc_region ?_
        refine xl_op (P := Try.prog) (some 28) rfl rfl (ox_move (v := (.int .i64 (0 + l.skip))) rfl ?_)
        refine xl_op (P := Try.prog) (some 2) rfl rfl (ox_assign (v := (.int .i64 (0 + l.skip))) rfl ?_)
        refine xl_nil ?_
        refine xc_ret ?_
        change leaves _ _ _ _ _ _ _
        refine leaves_nil (n := 29) (rs := [.tmp 2]) (vs := [(.int .i64 (0 + l.skip))]) rfl ⟨⟨by decide, rfl⟩, trivial⟩ ?_
        exact ⟨congrArg (Value.int .i64) (by unfold lfw byt; (repeat' split) <;> omega), e1⟩
    · skip
      refine xc_skip ?_
      refine xc_seq ?_
      refine xc_seq ?_
      refine xc_region ?_
      refine xl_op (P := Try.prog) (some 16) rfl rfl (ox_fieldAddr (b := w.heap.size) (o := 0) tF_84_2 rfl ?_)
      refine xl_op (P := Try.prog) (some 17) rfl rfl (ox_load (v := (.int .i64 l.len)) tA_3 rfl (b1.cell rfl) ?_)
      refine xl_op (P := Try.prog) (some 18) rfl rfl (ox_geq (k := .i64) (a := l.len) (b := 0) rfl rfl ?_)
      refine xl_op (P := Try.prog) (some 19) rfl rfl (ox_move (v := (.bool (decide ((0 : Int) ≤ l.len)))) rfl ?_)
      by_cases h5 : (0 : Int) ≤ l.len
      · skip
        refine xl_opg (P := Try.prog) (some 20) (j := 3) (b := true) rfl rfl (congrArg some (decide_eq_true h5)) (ox_fieldAddr (b := w.heap.size) (o := 0) tF_84_2 rfl ?_)
        refine xl_opg (P := Try.prog) (some 21) (j := 3) (b := true) rfl rfl (congrArg some (decide_eq_true h5)) (ox_load (v := (.int .i64 l.len)) tA_3 rfl (b1.cell rfl) ?_)
        refine xl_opg (P := Try.prog) (some 22) (j := 3) (b := true) rfl rfl (congrArg some (decide_eq_true h5)) (ox_leq (k := .i64) (a := l.len) (b := 262144) rfl rfl ?_)
        refine xl_op (P := Try.prog) (some 23) rfl rfl (ox_pick_t (v := (.bool (decide ((l.len : Int) ≤ 262144)))) (congrArg Value.bool (decide_eq_true h5)) rfl ?_)
        refine xl_nil ?_
        refine xc_if (p := (l.len : Int) ≤ 262144) rfl (fun h6 => ?_) (fun h6 => ?_)
        · skip
          refine xc_region ?_
          refine xl_op (P := Try.prog) (some 24) rfl rfl (ox_move (v := (.int .i64 0)) rfl ?_)
          refine xl_op (P := Try.prog) (some 25) rfl rfl (ox_fieldAddr (b := w.heap.size) (o := 0) tF_84_2 rfl ?_)
          refine xl_op (P := Try.prog) (some 26) rfl rfl (ox_load (v := (.int .i64 l.len)) tA_3 rfl (b1.cell rfl) ?_)
          refine xl_op (P := Try.prog) (some 27) rfl rfl (ox_add64 (a := 0) (b := l.len) rfl rfl (by omega) ?_)
          refine xl_op (P := Try.prog) (some 3) rfl rfl (ox_assign (v := (.int .i64 (0 + l.len))) rfl ?_)
          refine xl_nil ?_
          refine xc_seq ?_
          refine xc_region ?_
          refine xl_op (P := Try.prog) (some 28) rfl rfl (ox_move (v := (.int .i64 (0 + l.len))) rfl ?_)
          refine xl_op (P := Try.prog) (some 2) rfl rfl (ox_assign (v := (.int .i64 (0 + l.len))) rfl ?_)
          refine xl_nil ?_
          refine xc_ret ?_
          change leaves _ _ _ _ _ _ _
          refine leaves_nil (n := 29) (rs := [.tmp 2]) (vs := [(.int .i64 (0 + l.len))]) rfl ⟨⟨by decide, rfl⟩, trivial⟩ ?_
          exact ⟨congrArg (Value.int .i64) (by unfold lfw byt; (repeat' split) <;> omega), e1⟩
        · skip
          refine xc_skip ?_
          refine xc_seq ?_
          refine xc_region ?_
          refine xl_op (P := Try.prog) (some 28) rfl rfl (ox_move (v := (.int .i64 0)) rfl ?_)
          refine xl_op (P := Try.prog) (some 2) rfl rfl (ox_assign (v := (.int .i64 0)) rfl ?_)
          refine xl_nil ?_
          refine xc_ret ?_
          change leaves _ _ _ _ _ _ _
          refine leaves_nil (n := 29) (rs := [.tmp 2]) (vs := [(.int .i64 0)]) rfl ⟨⟨by decide, rfl⟩, trivial⟩ ?_
          exact ⟨congrArg (Value.int .i64) (by unfold lfw byt; (repeat' split) <;> omega), e1⟩
      · skip
        refine xl_skip (some 20) (j := 3) (b := true) false rfl rfl (congrArg some (decide_eq_false h5)) (by decide) ?_
        refine xl_skip (some 21) (j := 3) (b := true) false rfl rfl (congrArg some (decide_eq_false h5)) (by decide) ?_
        refine xl_skip (some 22) (j := 3) (b := true) false rfl rfl (congrArg some (decide_eq_false h5)) (by decide) ?_
        refine xl_op (P := Try.prog) (some 23) rfl rfl (ox_pick_f (v := (.bool false)) (congrArg Value.bool (decide_eq_false h5)) rfl ?_)
        refine xl_nil ?_
        refine xc_cond_f rfl ?_
        refine xc_skip ?_
        refine xc_seq ?_
        refine xc_region ?_
        refine xl_op (P := Try.prog) (some 28) rfl rfl (ox_move (v := (.int .i64 0)) rfl ?_)
        refine xl_op (P := Try.prog) (some 2) rfl rfl (ox_assign (v := (.int .i64 0)) rfl ?_)
        refine xl_nil ?_
        refine xc_ret ?_
        change leaves _ _ _ _ _ _ _
        refine leaves_nil (n := 29) (rs := [.tmp 2]) (vs := [(.int .i64 0)]) rfl ⟨⟨by decide, rfl⟩, trivial⟩ ?_
        exact ⟨congrArg (Value.int .i64) (by unfold lfw byt; (repeat' split) <;> omega), e1⟩
  · skip
    refine xl_skip (some 8) (j := 3) (b := true) false rfl rfl (congrArg some (decide_eq_false h1)) (by decide) ?_
    refine xl_skip (some 9) (j := 3) (b := true) false rfl rfl (congrArg some (decide_eq_false h1)) (by decide) ?_
    refine xl_skip (some 10) (j := 3) (b := true) false rfl rfl (congrArg some (decide_eq_false h1)) (by decide) ?_
    refine xl_op (P := Try.prog) (some 11) rfl rfl (ox_pick_f (v := (.bool false)) (congrArg Value.bool (decide_eq_false h1)) rfl ?_)
    refine xl_nil ?_
    refine xc_cond_f rfl ?_
    refine xc_skip ?_
    refine xc_seq ?_
    refine xc_seq ?_
    refine xc_region ?_
    refine xl_op (P := Try.prog) (some 16) rfl rfl (ox_fieldAddr (b := w.heap.size) (o := 0) tF_84_2 rfl ?_)
    refine xl_op (P := Try.prog) (some 17) rfl rfl (ox_load (v := (.int .i64 l.len)) tA_3 rfl (b1.cell rfl) ?_)
    refine xl_op (P := Try.prog) (some 18) rfl rfl (ox_geq (k := .i64) (a := l.len) (b := 0) rfl rfl ?_)
    refine xl_op (P := Try.prog) (some 19) rfl rfl (ox_move (v := (.bool (decide ((0 : Int) ≤ l.len)))) rfl ?_)
    by_cases h7 : (0 : Int) ≤ l.len
    · skip
      refine xl_opg (P := Try.prog) (some 20) (j := 3) (b := true) rfl rfl (congrArg some (decide_eq_true h7)) (ox_fieldAddr (b := w.heap.size) (o := 0) tF_84_2 rfl ?_)
      refine xl_opg (P := Try.prog) (some 21) (j := 3) (b := true) rfl rfl (congrArg some (decide_eq_true h7)) (ox_load (v := (.int .i64 l.len)) tA_3 rfl (b1.cell rfl) ?_)
      refine xl_opg (P := Try.prog) (some 22) (j := 3) (b := true) rfl rfl (congrArg some (decide_eq_true h7)) (ox_leq (k := .i64) (a := l.len) (b := 262144) rfl rfl ?_)
      refine xl_op (P := Try.prog) (some 23) rfl rfl (ox_pick_t (v := (.bool (decide ((l.len : Int) ≤ 262144)))) (congrArg Value.bool (decide_eq_true h7)) rfl ?_)
      refine xl_nil ?_
      refine xc_if (p := (l.len : Int) ≤ 262144) rfl (fun h8 => ?_) (fun h8 => ?_)
      · skip
        refine xc_region ?_
        refine xl_op (P := Try.prog) (some 24) rfl rfl (ox_move (v := (.int .i64 0)) rfl ?_)
        refine xl_op (P := Try.prog) (some 25) rfl rfl (ox_fieldAddr (b := w.heap.size) (o := 0) tF_84_2 rfl ?_)
        refine xl_op (P := Try.prog) (some 26) rfl rfl (ox_load (v := (.int .i64 l.len)) tA_3 rfl (b1.cell rfl) ?_)
        refine xl_op (P := Try.prog) (some 27) rfl rfl (ox_add64 (a := 0) (b := l.len) rfl rfl (by omega) ?_)
        refine xl_op (P := Try.prog) (some 3) rfl rfl (ox_assign (v := (.int .i64 (0 + l.len))) rfl ?_)
        refine xl_nil ?_
        refine xc_seq ?_
        refine xc_region ?_
        refine xl_op (P := Try.prog) (some 28) rfl rfl (ox_move (v := (.int .i64 (0 + l.len))) rfl ?_)
        refine xl_op (P := Try.prog) (some 2) rfl rfl (ox_assign (v := (.int .i64 (0 + l.len))) rfl ?_)
        refine xl_nil ?_
        refine xc_ret ?_
        change leaves _ _ _ _ _ _ _
        refine leaves_nil (n := 29) (rs := [.tmp 2]) (vs := [(.int .i64 (0 + l.len))]) rfl ⟨⟨by decide, rfl⟩, trivial⟩ ?_
        exact ⟨congrArg (Value.int .i64) (by unfold lfw byt; (repeat' split) <;> omega), e1⟩
      · skip
        refine xc_skip ?_
        refine xc_seq ?_
        refine xc_region ?_
        refine xl_op (P := Try.prog) (some 28) rfl rfl (ox_move (v := (.int .i64 0)) rfl ?_)
        refine xl_op (P := Try.prog) (some 2) rfl rfl (ox_assign (v := (.int .i64 0)) rfl ?_)
        refine xl_nil ?_
        refine xc_ret ?_
        change leaves _ _ _ _ _ _ _
        refine leaves_nil (n := 29) (rs := [.tmp 2]) (vs := [(.int .i64 0)]) rfl ⟨⟨by decide, rfl⟩, trivial⟩ ?_
        exact ⟨congrArg (Value.int .i64) (by unfold lfw byt; (repeat' split) <;> omega), e1⟩
    · skip
      refine xl_skip (some 20) (j := 3) (b := true) false rfl rfl (congrArg some (decide_eq_false h7)) (by decide) ?_
      refine xl_skip (some 21) (j := 3) (b := true) false rfl rfl (congrArg some (decide_eq_false h7)) (by decide) ?_
      refine xl_skip (some 22) (j := 3) (b := true) false rfl rfl (congrArg some (decide_eq_false h7)) (by decide) ?_
      refine xl_op (P := Try.prog) (some 23) rfl rfl (ox_pick_f (v := (.bool false)) (congrArg Value.bool (decide_eq_false h7)) rfl ?_)
      refine xl_nil ?_
      refine xc_cond_f rfl ?_
      refine xc_skip ?_
      refine xc_seq ?_
      refine xc_region ?_
      refine xl_op (P := Try.prog) (some 28) rfl rfl (ox_move (v := (.int .i64 0)) rfl ?_)
      refine xl_op (P := Try.prog) (some 2) rfl rfl (ox_assign (v := (.int .i64 0)) rfl ?_)
      refine xl_nil ?_
      refine xc_ret ?_
      change leaves _ _ _ _ _ _ _
      refine leaves_nil (n := 29) (rs := [.tmp 2]) (vs := [(.int .i64 0)]) rfl ⟨⟨by decide, rfl⟩, trivial⟩ ?_
      exact ⟨congrArg (Value.int .i64) (by unfold lfw byt; (repeat' split) <;> omega), e1⟩

theorem refRanges_calls (ra rb : T) (H : List Hk) (w : World) (hH : H = (hunks ((rl ra).map T.id) ((rl rb).map T.id))) (hPa : PR w ra) (hsa : sz ra ≤ 4194304) (hPb : PR w rb) (hsb : sz rb ≤ 4194304) :
    Calls Try.prog 33 #[(.pointer (some ⟨ra.b, 0, none⟩)), (.pointer (some ⟨rb.b, 0, none⟩))] w (Ret (fun v w' => ∃ A c, v = .slice A (spans (rl rb) H).length c ∧ Vx.Own w' 79 2 (.slice A (spans (rl rb) H).length c) (spans (rl rb) H).length (snC (spans (rl rb) H)) ∧ (∀ k, (Value.slice A (spans (rl rb) H).length c).ownBlock = some k → w.heap.size ≤ k) ∧ Ext w w')) := by
  have hra := rl_len ra
  have hrb := rl_len rb
  have hHa : ∀ x ∈ H, hkG ((rl rb).map T.id).length x := by rw [hH]; exact hunks_all _ _
  have hHl : H.length ≤ 4194305 := by have h1 := hunks_len ((rl ra).map T.id) ((rl rb).map T.id); rw [← hH, List.length_map] at h1; omega
  refine calls_xc (n := 73) (f := fun s_ => [(.pointer (some ⟨ra.b, 0, none⟩)), (.pointer (some ⟨rb.b, 0, none⟩))].getD s_ undef) Try.func33 rfl rfl (by simp) (fun s_ => by simp) ?_
  refine xc_seq ?_
  refine xc_region ?_
  refine xl_op (P := Try.prog) (some 4) rfl rfl (ox_assign (v := (.slice none 0 0)) rfl ?_)
  refine xl_nil ?_
  refine xc_seq ?_
  refine xc_region ?_
  refine xl_op (P := Try.prog) (some 12) rfl rfl (ox_move (v := (.pointer (some ⟨ra.b, 0, none⟩))) rfl ?_)
  refine xl_op (P := Try.prog) (some 13) rfl rfl (ox_move (v := (.pointer (some ⟨rb.b, 0, none⟩))) rfl ?_)
  refine xl_op (P := Try.prog) (some 14) rfl rfl (ox_callE (al := [(.pointer (some ⟨ra.b, 0, none⟩)), (.pointer (some ⟨rb.b, 0, none⟩))]) pf_16 rfl (ret_mono ((by have h := refHunks_calls ra rb w (hPa.ext (Chg.refl _ _)) hsa (hPb.ext (Chg.refl _ _)) hsb; rw [← hH] at h; exact h)) ?_))
  rintro _ w1 ⟨Ah, ch, rfl, hoh, hlh, e1⟩
  have he1 := e1.size
  refine xl_op (P := Try.prog) (some 5) rfl rfl (ox_assign (v := (.slice Ah H.length ch)) rfl ?_)
  refine xl_nil ?_
  refine xc_seq ?_
  refine xc_region ?_
  refine xl_op (P := Try.prog) (some 15) rfl rfl (ox_move (v := (.pointer (some ⟨rb.b, 0, none⟩))) rfl ?_)
  refine xl_op (P := Try.prog) (some 16) rfl rfl (ox_callE (al := [(.pointer (some ⟨rb.b, 0, none⟩))]) pf_47 rfl (ret_mono (refLeaves_calls rb w1 (hPb.ext e1) hsb) ?_))
  rintro _ w2 ⟨Am, cm, rfl, hom, hlm, e2⟩
  have he2 := e2.size
  refine xl_op (P := Try.prog) (some 6) rfl rfl (ox_assign (v := (.slice Am ((rl rb).length) cm)) rfl ?_)
  refine xl_nil ?_
  refine xc_seq ?_
  refine xc_region ?_
  refine xl_op (P := Try.prog) (some 17) rfl rfl (ox_mkSlice (ps := [(0, (.int .i64 0))]) (zs := #[(.int .i64 0)]) (cs := #[(.int .i64 0)]) tE_42 rfl (by decide) (by kernel_rfl) (by kernel_rfl) ?_)
  intro w3 e3 z1 b1
  replace b1 : Blk w3 w2.heap.size #[(.int .i64 0)] 3 := b1
  refine xl_op (P := Try.prog) (some 7) rfl rfl (ox_assign (v := (.slice (some ⟨w2.heap.size, 0, none⟩) 1 1)) rfl ?_)
  refine xl_nil ?_
  refine xc_seq ?_
  refine xc_seq ?_
  refine xc_region ?_
  refine xl_op (P := Try.prog) (some 8) rfl rfl (ox_assign (v := (.int .i64 0)) rfl ?_)
  refine xl_nil ?_
  refine xc_block ?_
  have hEw := (Ext.trans (Ext.trans e1 e2) e3)
  have hEz := hEw.size
  have hbg0 : Vx.Own w3 3 1 (.slice (some ⟨w2.heap.size, 0, none⟩) 1 1) 1 (bgC (rl rb) 1) := Vx.Own.lit (n := 1) (sz := 1) b1 rfl (by decide)
  have hom2 := hom
  have hoh2 := hoh.ext e2
  have hEm := e3
  have hEwm := (Ext.trans (Ext.trans (Chg.refl _ _) e1) e2)
  have hbgl : w2.heap.size ≤ w2.heap.size := by omega
  refine xc_loopN (fun m f W => ∃ (i : Nat) (Ab : Option Addr) (cb : Nat), m = (rl rb).length - i ∧ i ≤ (rl rb).length ∧ f 5 = (.slice Ah H.length ch) ∧ f 6 = (.slice Am ((rl rb).length) cm) ∧ f 7 = (.slice Ab ((i + 1)) cb) ∧ f 8 = (.int .i64 ((i : Nat))) ∧ Vx.Own W 3 1 (.slice Ab ((i + 1)) cb) (i + 1) (bgC (rl rb) (i + 1)) ∧ (∀ k, ((.slice Ab ((i + 1)) cb) : Value).ownBlock = some k → w2.heap.size ≤ k) ∧ Ext w2 W) ((rl rb).length) ?_ ?_
  · exact ⟨0, some ⟨w2.heap.size, 0, none⟩, 1, by omega, by omega, rfl, rfl, rfl, (by first | exact rfl | exact (congrArg (Value.int .i64) (by omega))), hbg0, (by simp [Value.ownBlock] <;> omega), hEm⟩
  · rintro m f1 w4 ⟨i, Ab, cb, hm, hi, g5_f1, g6_f1, g7_f1, g8_f1, bg_f1, lo_f1, x_f1⟩
    have hzX := x_f1.size
    refine xc_seq ?_
    refine xc_seq ?_
    refine xc_region ?_
    refine xl_op (P := Try.prog) (some 18) rfl rfl (ox_move (v := (.int .i64 ((i : Nat)))) g8_f1 ?_)
    refine xl_op (P := Try.prog) (some 19) rfl rfl (ox_move (v := (.slice Am ((rl rb).length) cm)) g6_f1 ?_)
    refine xl_op (P := Try.prog) (some 20) rfl rfl (ox_len (A := Am) (n := ((rl rb).length)) (cp := cm) rfl tU_29 rfl ?_)
    refine xl_op (P := Try.prog) (some 21) rfl rfl (ox_lss (k := .i64) (a := ((i : Nat))) (b := ((((rl rb).length : Nat) : Int))) rfl rfl ?_)
    refine xl_nil ?_
    refine xc_if (p := ((i : Nat) : Int) < ((((rl rb).length : Nat) : Int))) rfl (fun h1 => ?_) (fun h1 => ?_)
    · skip
      have hil : i < (rl rb).length := by omega
      obtain ⟨u, hu⟩ := get_ex (l := rl rb) (i := i) hil
      have hum := List.mem_of_getElem? hu
      have hku := rl_kind hum
      have hpu := (rl_PR hPb).get hu
      obtain ⟨gm, cm9, heqm, _⟩ := hom2.some_of (by omega)
      simp only [Value.slice.injEq, true_and] at heqm
      obtain ⟨rfl, rfl⟩ := heqm
      have hcm := Own.at1 hom2 (j := i) (v := u.ptr) (by simp [hu])
      obtain ⟨gb, cb9, heqb, _⟩ := bg_f1.some_of (by omega)
      simp only [Value.slice.injEq, true_and] at heqb
      obtain ⟨rfl, rfl⟩ := heqb
      have hcb := Own.at1 bg_f1 (bgC_get (rl rb) (j := i) (n := i + 1) (by omega))
      have hw1 := wdL_take_le (rl rb) i; have hw2 := rl_wd rb; have hw3 := wd_bd rb; have hw4 := lfw_bd u.lf
      refine xc_skip ?_
      refine xc_seq ?_
      refine xc_block ?_
      refine xc_regionE [14, 15] (fun W_ => Chg (fun _ => False) w4 W_) hmix ?_
      intro w5 e4 z2
      have hS1 : Chg (fun _ => False) w4 w5 := Ext.to e4
      refine xd_pure 0 (some 24) rfl rfl (by kernel_rfl) (v := (.slice (some ⟨gb, 0, none⟩) ((i + 1)) cb)) (.inl ⟨rfl, fun W_ hW_ => ox_move (v := (.slice (some ⟨gb, 0, none⟩) ((i + 1)) cb)) g7_f1 ⟨rfl, rfl⟩⟩) ?_
      refine xd_pure 1 (some 25) rfl rfl (by kernel_rfl) (v := (.slice (some ⟨gb, 0, none⟩) ((i + 1)) cb)) (.inl ⟨rfl, fun W_ hW_ => ox_move (v := (.slice (some ⟨gb, 0, none⟩) ((i + 1)) cb)) g7_f1 ⟨rfl, rfl⟩⟩) ?_
      refine xd_pure 2 (some 26) rfl rfl (by kernel_rfl) (v := (.int .i64 ((i : Nat)))) (.inl ⟨rfl, fun W_ hW_ => ox_move (v := (.int .i64 ((i : Nat)))) g8_f1 ⟨rfl, rfl⟩⟩) ?_
      refine xd_pure 3 (some 27) rfl rfl (by kernel_rfl) (v := (.pointer (some ⟨gb, 0 + i * 1, none⟩))) (.inl ⟨rfl, fun W_ hW_ => ox_indexAddr (b := gb) (o := 0) (i := ((i : Nat))) tE_42 rfl rfl (by omega) (by omega) ⟨rfl, rfl⟩⟩) ?_
      refine xd_takeU 4 (some 28) [13, 16, 14, 15] rfl rfl (by kernel_rfl) (v := (.int .i64 (wdL ((rl rb).take i)))) (.inl ⟨rfl, fun W_ hW_ => ox_load (v := (.int .i64 (wdL ((rl rb).take i)))) tA_3 rfl (by simpa using Ext.cell hcb (Ext.trans (Chg.refl _ _) hW_)) ⟨rfl, rfl⟩⟩) hS1 ?_
      refine xd_pure 5 (some 29) rfl rfl (by kernel_rfl) (v := (.slice (some ⟨gm, 0, none⟩) ((rl rb).length) cm)) (.inl ⟨rfl, fun W_ hW_ => ox_move (v := (.slice (some ⟨gm, 0, none⟩) ((rl rb).length) cm)) g6_f1 ⟨rfl, rfl⟩⟩) ?_
      refine xd_pure 6 (some 30) rfl rfl (by kernel_rfl) (v := (.int .i64 ((i : Nat)))) (.inl ⟨rfl, fun W_ hW_ => ox_move (v := (.int .i64 ((i : Nat)))) g8_f1 ⟨rfl, rfl⟩⟩) ?_
      refine xd_pure 7 (some 31) rfl rfl (by kernel_rfl) (v := (.pointer (some ⟨gm, 0 + i * 1, none⟩))) (.inl ⟨rfl, fun W_ hW_ => ox_indexAddr (b := gm) (o := 0) (i := ((i : Nat))) tE_29 rfl rfl (by omega) (by omega) ⟨rfl, rfl⟩⟩) ?_
      refine xd_takeU 8 (some 32) [9, 16, 10, 11, 12, 13, 15, 14] rfl rfl (by kernel_rfl) (v := (.pointer (some ⟨u.b, 0, none⟩))) (.inl ⟨rfl, fun W_ hW_ => ox_load (v := (.pointer (some ⟨u.b, 0, none⟩))) tA_38 rfl (by simpa [T.ptr] using Ext.cell hcm (Ext.trans x_f1 hW_)) ⟨rfl, rfl⟩⟩) hS1 ?_
      refine xd_pure 9 (some 33) rfl rfl (by kernel_rfl) (v := (.pointer (some ⟨u.b, 0, none⟩))) (.inl ⟨rfl, fun W_ hW_ => ox_nilCheck (p := ⟨u.b, 0, none⟩) rfl ⟨rfl, rfl⟩⟩) ?_
      refine xd_pure 10 (some 34) rfl rfl (by kernel_rfl) (v := (.pointer (some ⟨u.b, 4, none⟩))) (.inl ⟨rfl, fun W_ hW_ => ox_fieldAddr (b := u.b) (o := 0) tF_86_4 rfl ⟨rfl, rfl⟩⟩) ?_
      refine xd_takeU 11 (some 35) [12, 16, 13, 15, 14] rfl rfl (by kernel_rfl) (v := (.agg #[(.int .i64 u.lf.kind), (.int .i64 u.lf.skip), (.int .i64 u.lf.len), (.int .i64 u.lf.reach)])) (.inl ⟨rfl, fun W_ hW_ => ox_loadN (vs := [(.int .i64 u.lf.kind), (.int .i64 u.lf.skip), (.int .i64 u.lf.len), (.int .i64 u.lf.reach)]) tA_84 tS_84 rfl rfl ⟨((hpu.blk.ext (Ext.trans hEwm x_f1)).ext hW_).cell rfl, ((hpu.blk.ext (Ext.trans hEwm x_f1)).ext hW_).cell rfl, ((hpu.blk.ext (Ext.trans hEwm x_f1)).ext hW_).cell rfl, ((hpu.blk.ext (Ext.trans hEwm x_f1)).ext hW_).cell rfl, trivial⟩ ⟨rfl, rfl⟩⟩) hS1 ?_
      refine xd_one 12 (some 36) rfl rfl (by kernel_rfl) rfl (ox_callE (al := [(.agg #[(.int .i64 u.lf.kind), (.int .i64 u.lf.skip), (.int .i64 u.lf.len), (.int .i64 u.lf.reach)])]) pf_59 rfl (ret_mono (wide_calls u.lf w5 trivial) ?_))
      rintro _ w6 ⟨rfl, e5⟩
      have he5 := e5.size
      have hS2 : Chg (fun _ => False) w4 w6 := Chg.ext hS1 e5
      refine ⟨.inr fun _ => hS2, ?_⟩
      refine xd_pure 13 (some 37) rfl rfl (by kernel_rfl) (v := (.int .i64 (wdL ((rl rb).take i) + (lfw u.lf)))) (.inl ⟨rfl, fun W_ hW_ => ox_add64 (a := (wdL ((rl rb).take i))) (b := (lfw u.lf)) rfl rfl (by omega) ⟨rfl, rfl⟩⟩) ?_
      refine xd_one 14 (some 38) rfl rfl (by kernel_rfl) rfl (ox_mkSlice (ps := [(0, (.int .i64 (wdL ((rl rb).take i) + (lfw u.lf))))]) (zs := #[(.int .i64 0)]) (cs := #[(.int .i64 (wdL ((rl rb).take i) + (lfw u.lf)))]) tE_42 rfl (by decide) (by kernel_rfl) (by kernel_rfl) ?_)
      intro w7 e6 z3 b2
      replace b2 : Blk w7 w6.heap.size #[(.int .i64 (wdL ((rl rb).take i) + (lfw u.lf)))] 3 := b2
      refine ⟨.inl (by decide), ?_⟩
      refine xd_one 15 (some 39) rfl rfl (by kernel_rfl) rfl (ox_append (n := ((i + 1))) (g := w6.heap.size) (o := 0) (m := 1) (xs := ((bgC (rl rb) (i + 1)))) (news := ([(.int .i64 (wdL ((rl rb).take i) + (lfw u.lf)))])) rfl tE_42 rfl (by decide) (v := (.slice (some ⟨gb, 0, none⟩) ((i + 1)) cb)) rfl rfl (((bg_f1.ext e4).ext e5).ext e6) rfl b2.all rfl (by omega) (by omega) ?_)
      intro v1 w8 o1 e7 at1 nil1
      have he7 := e7.size
      obtain ⟨A1, c1, rfl, hc1⟩ := o1.shape
      have low1 : ∀ _k, (Value.slice A1 ((i + 1) + 1) c1).ownBlock = some _k → w2.heap.size ≤ _k := fun _k _h => by rcases at1 with _e | _e <;> rw [_e] at _h; exact lo_f1 _k _h; exact (by cases _h; omega)
      refine ⟨.inl (by decide), ?_⟩
      refine xd_pure 16 (some 7) rfl rfl (by kernel_rfl) (v := (.slice A1 ((i + 1) + 1) c1)) (.inl ⟨rfl, fun W_ hW_ => ox_assign (v := (.slice A1 ((i + 1) + 1) c1)) rfl ⟨rfl, rfl⟩⟩) ?_
      refine xd_done (by kernel_rfl) ?_ _
      refine xc_region ?_
      refine xl_op (P := Try.prog) (some 22) rfl rfl (ox_move (v := (.int .i64 ((i : Nat)))) g8_f1 ?_)
      refine xl_op (P := Try.prog) (some 23) rfl rfl (ox_add64 (a := ((i : Nat))) (b := 1) rfl rfl (by omega) ?_)
      refine xl_op (P := Try.prog) (some 8) rfl rfl (ox_assign (v := (.int .i64 ((i : Nat) + 1))) rfl ?_)
      refine xl_nil ?_
      have ho9 := o1
      have hsz0 := e4.size
      have hsz1 := e5.size
      have hsz2 := e6.size
      have hsz3 := e7.size
      have hsu := wdL_succ hu
      exact ⟨rfl, (rl rb).length - (i + 1), by omega, i + 1, A1, c1, by omega, by omega, g5_f1, g6_f1, rfl, (by first | exact rfl | exact (congrArg (Value.int .i64) (by omega))), (by rw [bgC_succ, hsu]; simpa [lfw_leaf hku] using ho9), (fun k hk => low1 k (ownBlock_len hk)), (Chg.trans (Ext.trans (Ext.trans (Ext.trans x_f1 e4) e5) e6) e7 (fun b hb hl => absurd hl (by have := lo_f1 b hb; omega)))⟩
    · skip
      refine xc_exit ?_
      refine xc_seq ?_
      refine xc_region ?_
      refine xl_op (P := Try.prog) (some 9) rfl rfl (ox_assign (v := (.slice none 0 0)) rfl ?_)
      refine xl_nil ?_
      refine xc_seq ?_
      refine xc_seq ?_
      refine xc_region ?_
      refine xl_op (P := Try.prog) (some 10) rfl rfl (ox_assign (v := (.int .i64 0)) rfl ?_)
      refine xl_nil ?_
      refine xc_block ?_
      have hi9 : i = (rl rb).length := by omega
      have hbg1 := bg_f1
      rw [hi9] at hbg1
      obtain ⟨gb, cb9, heqb, _⟩ := hbg1.some_of (by omega)
      simp only [Value.slice.injEq, true_and] at heqb
      obtain ⟨rfl, rfl⟩ := heqb
      have hEw2 := (Ext.trans hEwm x_f1)
      have hEz2 := hEw2.size
      have hoh3 := hoh2.ext x_f1
      refine xc_loopN (fun m f W => ∃ (k : Nat) (Ao : Option Addr) (co : Nat), m = H.length - k ∧ k ≤ H.length ∧ f 5 = (.slice Ah H.length ch) ∧ f 7 = (.slice (some ⟨gb, 0, none⟩) (((rl rb).length + 1)) cb) ∧ f 9 = (.slice Ao ((spans (rl rb) (H.take k)).length) co) ∧ f 10 = (.int .i64 ((k : Nat))) ∧ Vx.Own W 79 2 (.slice Ao ((spans (rl rb) (H.take k)).length) co) (spans (rl rb) (H.take k)).length (snC (spans (rl rb) (H.take k))) ∧ (∀ z9, ((.slice Ao ((spans (rl rb) (H.take k)).length) co) : Value).ownBlock = some z9 → w4.heap.size ≤ z9) ∧ Ext w4 W) (H.length) ?_ ?_
      · exact ⟨0, none, 0, by omega, by omega, g5_f1, (by rw [← hi9]; exact g7_f1), rfl, (by first | exact rfl | exact (congrArg (Value.int .i64) (by omega))), (by simpa [spans, snC] using Vx.Own.nil _ _ _), (by simp [Value.ownBlock]), (Chg.refl _ _)⟩
      · rintro m f2 w9 ⟨k, Ao, co, hm, hk, g5_f2, g7_f2, g9_f2, g10_f2, o_f2, lo_f2, x_f2⟩
        have hzX2 := x_f2.size
        refine xc_seq ?_
        refine xc_seq ?_
        refine xc_region ?_
        refine xl_op (P := Try.prog) (some 40) rfl rfl (ox_move (v := (.int .i64 ((k : Nat)))) g10_f2 ?_)
        refine xl_op (P := Try.prog) (some 41) rfl rfl (ox_move (v := (.slice Ah H.length ch)) g5_f2 ?_)
        refine xl_op (P := Try.prog) (some 42) rfl rfl (ox_len (A := Ah) (n := H.length) (cp := ch) rfl tU_34 rfl ?_)
        refine xl_op (P := Try.prog) (some 43) rfl rfl (ox_lss (k := .i64) (a := ((k : Nat))) (b := (((H.length : Nat) : Int))) rfl rfl ?_)
        refine xl_nil ?_
        refine xc_if (p := ((k : Nat) : Int) < (((H.length : Nat) : Int))) rfl (fun h2 => ?_) (fun h2 => ?_)
        · skip
          have hkl : k < H.length := by omega
          obtain ⟨h, hh⟩ := get_ex (l := H) (i := k) hkl
          have hhb := hHa h (List.mem_of_getElem? hh)
          obtain ⟨hh1, hh2, hh3⟩ := hhb
          rw [List.length_map] at hh3
          have hsl := spans_len (rl rb) (H.take k)
          rw [List.length_take] at hsl
          obtain ⟨gh, ch9, heqh, _⟩ := hoh3.some_of (by omega)
          simp only [Value.slice.injEq, true_and] at heqh
          obtain ⟨rfl, rfl⟩ := heqh
          have hch := Own.hk hoh3 hh
          have hc1 := Own.at1 hbg1 (bgC_get (rl rb) (j := h.into.toNat) (n := (rl rb).length + 1) (by omega))
          have hc2 := Own.at1 hbg1 (bgC_get (rl rb) (j := h.upto.toNat) (n := (rl rb).length + 1) (by omega))
          refine xc_skip ?_
          refine xc_seq ?_
          refine xc_block ?_
          refine xc_seq ?_
          refine xc_regionE [18] (fun W_ => Chg (fun _ => False) w9 W_) hmix ?_
          intro w10 e8 z4
          have hS3 : Chg (fun _ => False) w9 w10 := Ext.to e8
          refine xd_pure 0 (some 46) rfl rfl (by kernel_rfl) (v := (.slice (some ⟨gb, 0, none⟩) (((rl rb).length + 1)) cb)) (.inl ⟨rfl, fun W_ hW_ => ox_move (v := (.slice (some ⟨gb, 0, none⟩) (((rl rb).length + 1)) cb)) g7_f2 ⟨rfl, rfl⟩⟩) ?_
          refine xd_pure 1 (some 47) rfl rfl (by kernel_rfl) (v := (.slice (some ⟨gh, 0, none⟩) H.length ch)) (.inl ⟨rfl, fun W_ hW_ => ox_move (v := (.slice (some ⟨gh, 0, none⟩) H.length ch)) g5_f2 ⟨rfl, rfl⟩⟩) ?_
          refine xd_pure 2 (some 48) rfl rfl (by kernel_rfl) (v := (.int .i64 ((k : Nat)))) (.inl ⟨rfl, fun W_ hW_ => ox_move (v := (.int .i64 ((k : Nat)))) g10_f2 ⟨rfl, rfl⟩⟩) ?_
          refine xd_pure 3 (some 49) rfl rfl (by kernel_rfl) (v := (.pointer (some ⟨gh, 0 + k * 4, none⟩))) (.inl ⟨rfl, fun W_ hW_ => ox_indexAddr (b := gh) (o := 0) (i := ((k : Nat))) tE_34 rfl rfl (by omega) (by omega) ⟨rfl, rfl⟩⟩) ?_
          refine xd_pure 4 (some 50) rfl rfl (by kernel_rfl) (v := (.pointer (some ⟨gh, 0 + k * 4 + 2, none⟩))) (.inl ⟨rfl, fun W_ hW_ => ox_fieldAddr (b := gh) (o := (0 + k * 4)) tF_40_2 rfl ⟨rfl, rfl⟩⟩) ?_
          refine xd_take 5 (some 51) rfl rfl (by kernel_rfl) (v := (.int .i64 h.into)) (.inl ⟨rfl, fun W_ hW_ => ox_load (v := (.int .i64 h.into)) tA_3 rfl (by simpa using (CellsL.keep (Ext.trans x_f2 hW_) not_false hch).2.2.1) ⟨rfl, rfl⟩⟩) hS3 ?_
          refine xd_pure 6 (some 52) rfl rfl (by kernel_rfl) (v := (.pointer (some ⟨gb, 0 + h.into.toNat * 1, none⟩))) (.inl ⟨rfl, fun W_ hW_ => ox_indexAddr (b := gb) (o := 0) (i := h.into) tE_42 rfl rfl (by omega) (by omega) ⟨rfl, rfl⟩⟩) ?_
          refine xd_take 7 (some 53) rfl rfl (by kernel_rfl) (v := (.int .i64 (wdL ((rl rb).take h.into.toNat)))) (.inl ⟨rfl, fun W_ hW_ => ox_load (v := (.int .i64 (wdL ((rl rb).take h.into.toNat)))) tA_3 rfl (by simpa using Ext.cell hc1 (Ext.trans x_f2 hW_)) ⟨rfl, rfl⟩⟩) hS3 ?_
          refine xd_pure 8 (some 54) rfl rfl (by kernel_rfl) (v := (.slice (some ⟨gb, 0, none⟩) (((rl rb).length + 1)) cb)) (.inl ⟨rfl, fun W_ hW_ => ox_move (v := (.slice (some ⟨gb, 0, none⟩) (((rl rb).length + 1)) cb)) g7_f2 ⟨rfl, rfl⟩⟩) ?_
          refine xd_pure 9 (some 55) rfl rfl (by kernel_rfl) (v := (.slice (some ⟨gh, 0, none⟩) H.length ch)) (.inl ⟨rfl, fun W_ hW_ => ox_move (v := (.slice (some ⟨gh, 0, none⟩) H.length ch)) g5_f2 ⟨rfl, rfl⟩⟩) ?_
          refine xd_pure 10 (some 56) rfl rfl (by kernel_rfl) (v := (.int .i64 ((k : Nat)))) (.inl ⟨rfl, fun W_ hW_ => ox_move (v := (.int .i64 ((k : Nat)))) g10_f2 ⟨rfl, rfl⟩⟩) ?_
          refine xd_pure 11 (some 57) rfl rfl (by kernel_rfl) (v := (.pointer (some ⟨gh, 0 + k * 4, none⟩))) (.inl ⟨rfl, fun W_ hW_ => ox_indexAddr (b := gh) (o := 0) (i := ((k : Nat))) tE_34 rfl rfl (by omega) (by omega) ⟨rfl, rfl⟩⟩) ?_
          refine xd_pure 12 (some 58) rfl rfl (by kernel_rfl) (v := (.pointer (some ⟨gh, 0 + k * 4 + 3, none⟩))) (.inl ⟨rfl, fun W_ hW_ => ox_fieldAddr (b := gh) (o := (0 + k * 4)) tF_40_3 rfl ⟨rfl, rfl⟩⟩) ?_
          refine xd_take 13 (some 59) rfl rfl (by kernel_rfl) (v := (.int .i64 h.upto)) (.inl ⟨rfl, fun W_ hW_ => ox_load (v := (.int .i64 h.upto)) tA_3 rfl (by simpa using (CellsL.keep (Ext.trans x_f2 hW_) not_false hch).2.2.2.1) ⟨rfl, rfl⟩⟩) hS3 ?_
          refine xd_pure 14 (some 60) rfl rfl (by kernel_rfl) (v := (.pointer (some ⟨gb, 0 + h.upto.toNat * 1, none⟩))) (.inl ⟨rfl, fun W_ hW_ => ox_indexAddr (b := gb) (o := 0) (i := h.upto) tE_42 rfl rfl (by omega) (by omega) ⟨rfl, rfl⟩⟩) ?_
          refine xd_take 15 (some 61) rfl rfl (by kernel_rfl) (v := (.int .i64 (wdL ((rl rb).take h.upto.toNat)))) (.inl ⟨rfl, fun W_ hW_ => ox_load (v := (.int .i64 (wdL ((rl rb).take h.upto.toNat)))) tA_3 rfl (by simpa using Ext.cell hc2 (Ext.trans x_f2 hW_)) ⟨rfl, rfl⟩⟩) hS3 ?_
          refine xd_pure 16 (some 62) rfl rfl (by kernel_rfl) (v := (.agg #[(.int .i64 (wdL ((rl rb).take h.into.toNat))), (.int .i64 (wdL ((rl rb).take h.upto.toNat)))])) (.inl ⟨rfl, fun W_ hW_ => ox_mkStruct (ps := [(0, (.int .i64 (wdL ((rl rb).take h.into.toNat)))), (1, (.int .i64 (wdL ((rl rb).take h.upto.toNat))))]) (cs := #[(.int .i64 (wdL ((rl rb).take h.into.toNat))), (.int .i64 (wdL ((rl rb).take h.upto.toNat)))]) tZ_79 tP_79 rfl (by kernel_rfl) ⟨rfl, rfl⟩⟩) ?_
          refine xd_one 17 (some 11) rfl rfl (by kernel_rfl) rfl (ox_alloc tZ_79 ?_)
          intro w11 e9 z5 b3
          replace b3 : Blk w11 w10.heap.size #[(.int .i64 0), (.int .i64 0)] 79 := b3
          have hS4 : Chg (fun _ => False) w9 w11 := Chg.ext hS3 e9
          refine ⟨.inr fun _ => hS4, ?_⟩
          refine xd_one 18 none rfl rfl (by kernel_rfl) rfl (ox_store (n := 2) (vs := [(.int .i64 (wdL ((rl rb).take h.into.toNat))), (.int .i64 (wdL ((rl rb).take h.upto.toNat)))]) tS_79 rfl (v := (.agg #[(.int .i64 (wdL ((rl rb).take h.into.toNat))), (.int .i64 (wdL ((rl rb).take h.upto.toNat)))])) rfl rfl rfl rfl b3 (Nat.le_of_ble_eq_true rfl) ?_)
          intro w12 e10 z6 b4
          replace b4 : Blk w12 w10.heap.size #[(.int .i64 (wdL ((rl rb).take h.into.toNat))), (.int .i64 (wdL ((rl rb).take h.upto.toNat)))] 79 := blk_full b4 rfl
          refine ⟨.inl (by decide), ?_⟩
          refine xd_done (by kernel_rfl) ?_ _
          refine xc_seq ?_
          refine xc_region ?_
          refine xl_op (P := Try.prog) (some 63) rfl rfl (ox_fieldAddr (b := w10.heap.size) (o := 0) tF_79_0 rfl ?_)
          refine xl_op (P := Try.prog) (some 64) rfl rfl (ox_load (v := (.int .i64 (wdL ((rl rb).take h.into.toNat)))) tA_3 rfl (b4.cell rfl) ?_)
          refine xl_op (P := Try.prog) (some 65) rfl rfl (ox_fieldAddr (b := w10.heap.size) (o := 0) tF_79_1 rfl ?_)
          refine xl_op (P := Try.prog) (some 66) rfl rfl (ox_load (v := (.int .i64 (wdL ((rl rb).take h.upto.toNat)))) tA_3 rfl (b4.cell rfl) ?_)
          refine xl_op (P := Try.prog) (some 67) rfl rfl (ox_lss (k := .i64) (a := (wdL ((rl rb).take h.into.toNat))) (b := (wdL ((rl rb).take h.upto.toNat))) rfl rfl ?_)
          refine xl_nil ?_
          refine xc_if (p := (wdL ((rl rb).take h.into.toNat) : Int) < (wdL ((rl rb).take h.upto.toNat))) rfl (fun h3 => ?_) (fun h3 => ?_)
          · skip
            have hlt : (spanH (rl rb) h).frm < (spanH (rl rb) h).to := h3
            refine xc_region ?_
            refine xl_op (P := Try.prog) (some 68) rfl rfl (ox_move (v := (.slice Ao ((spans (rl rb) (H.take k)).length) co)) g9_f2 ?_)
            refine xl_op (P := Try.prog) (some 69) rfl rfl (ox_loadN (vs := [(.int .i64 (wdL ((rl rb).take h.into.toNat))), (.int .i64 (wdL ((rl rb).take h.upto.toNat)))]) tA_79 tS_79 rfl rfl ⟨b4.cell rfl, b4.cell rfl, trivial⟩ ?_)
            refine xl_op (P := Try.prog) (some 70) rfl rfl (ox_mkSlice (ps := [(0, (.agg #[(.int .i64 (wdL ((rl rb).take h.into.toNat))), (.int .i64 (wdL ((rl rb).take h.upto.toNat)))]))]) (zs := #[(.int .i64 0), (.int .i64 0)]) (cs := #[(.int .i64 (wdL ((rl rb).take h.into.toNat))), (.int .i64 (wdL ((rl rb).take h.upto.toNat)))]) tE_76 rfl (by decide) (by kernel_rfl) (by kernel_rfl) ?_)
            intro w13 e11 z7 b5
            replace b5 : Blk w13 w12.heap.size #[(.int .i64 (wdL ((rl rb).take h.into.toNat))), (.int .i64 (wdL ((rl rb).take h.upto.toNat)))] 79 := b5
            have q1 := (((o_f2.ext e8).ext e9).keep1 e10 (fun k hk => by have _q := ((o_f2.ext e8).lt) k hk; omega))
            refine xl_op (P := Try.prog) (some 71) rfl rfl (ox_append (n := ((spans (rl rb) (H.take k)).length)) (g := w12.heap.size) (o := 0) (m := 1) (xs := ((snC (spans (rl rb) (H.take k))))) (news := ([(.int .i64 (wdL ((rl rb).take h.into.toNat))), (.int .i64 (wdL ((rl rb).take h.upto.toNat)))])) rfl tE_76 rfl (by decide) (v := (.slice Ao ((spans (rl rb) (H.take k)).length) co)) rfl rfl (q1.ext e11) rfl b5.all rfl (by omega) (by omega) ?_)
            intro v2 w14 o2 e12 at2 nil2
            have he12 := e12.size
            obtain ⟨A2, c2, rfl, hc2⟩ := o2.shape
            have low2 : ∀ _k, (Value.slice A2 ((spans (rl rb) (H.take k)).length + 1) c2).ownBlock = some _k → w4.heap.size ≤ _k := fun _k _h => by rcases at2 with _e | _e <;> rw [_e] at _h; exact lo_f2 _k _h; exact (by cases _h; omega)
            refine xl_op (P := Try.prog) (some 9) rfl rfl (ox_assign (v := (.slice A2 ((spans (rl rb) (H.take k)).length + 1) c2)) rfl ?_)
            refine xl_nil ?_
            refine xc_region ?_
            refine xl_op (P := Try.prog) (some 44) rfl rfl (ox_move (v := (.int .i64 ((k : Nat)))) g10_f2 ?_)
            refine xl_op (P := Try.prog) (some 45) rfl rfl (ox_add64 (a := ((k : Nat))) (b := 1) rfl rfl (by omega) ?_)
            refine xl_op (P := Try.prog) (some 10) rfl rfl (ox_assign (v := (.int .i64 ((k : Nat) + 1))) rfl ?_)
            refine xl_nil ?_
            have ho9 := o2
            have hsz0 := e8.size
            have hsz1 := e9.size
            have hsz2 := e10.size
            have hsz3 := e11.size
            have hsz4 := e12.size
            have hsp := spans_yes hh hlt
            exact ⟨rfl, H.length - (k + 1), by omega, k + 1, A2, c2, by omega, by omega, g5_f2, g7_f2, (by rw [hsp, List.length_append]; rfl), (by first | exact rfl | exact (congrArg (Value.int .i64) (by omega))), (by rw [hsp, snC_snoc, List.length_append]; exact ho9), (by rw [hsp, List.length_append]; exact fun k hk => low2 k (ownBlock_len hk)), (Chg.trans (Ext.trans (Ext.chg1 (Ext.trans (Ext.trans x_f2 e8) e9) e10 (by omega)) e11) e12 (fun b hb hl => absurd hl (by have := lo_f2 b hb; omega)))⟩
          · skip
            have hlt : ¬ (spanH (rl rb) h).frm < (spanH (rl rb) h).to := h3
            refine xc_skip ?_
            refine xc_region ?_
            refine xl_op (P := Try.prog) (some 44) rfl rfl (ox_move (v := (.int .i64 ((k : Nat)))) g10_f2 ?_)
            refine xl_op (P := Try.prog) (some 45) rfl rfl (ox_add64 (a := ((k : Nat))) (b := 1) rfl rfl (by omega) ?_)
            refine xl_op (P := Try.prog) (some 10) rfl rfl (ox_assign (v := (.int .i64 ((k : Nat) + 1))) rfl ?_)
            refine xl_nil ?_
            have q2 := (((o_f2.ext e8).ext e9).keep1 e10 (fun k hk => by have _q := ((o_f2.ext e8).lt) k hk; omega))
            have ho9 := q2
            have hsz0 := e8.size
            have hsz1 := e9.size
            have hsz2 := e10.size
            have hsp := spans_no hh hlt
            exact ⟨rfl, H.length - (k + 1), by omega, k + 1, Ao, co, by omega, by omega, g5_f2, g7_f2, (by rw [hsp]; exact g9_f2), (by first | exact rfl | exact (congrArg (Value.int .i64) (by omega))), (by rw [hsp]; exact ho9), (by rw [hsp]; exact lo_f2), (Ext.chg1 (Ext.trans (Ext.trans x_f2 e8) e9) e10 (by omega))⟩
        · skip
          refine xc_exit ?_
          refine xc_seq ?_
          refine xc_region ?_
          refine xl_op (P := Try.prog) (some 72) rfl rfl (ox_move (v := (.slice Ao ((spans (rl rb) (H.take k)).length) co)) g9_f2 ?_)
          refine xl_op (P := Try.prog) (some 4) rfl rfl (ox_assign (v := (.slice Ao ((spans (rl rb) (H.take k)).length) co)) rfl ?_)
          refine xl_nil ?_
          refine xc_ret ?_
          change leaves _ _ _ _ _ _ _
          refine leaves_nil (n := 73) (rs := [.tmp 4]) (vs := [(.slice Ao ((spans (rl rb) (H.take k)).length) co)]) rfl ⟨⟨by decide, rfl⟩, trivial⟩ ?_
          have hk9 : k = H.length := by omega
          have ho9 := o_f2
          have hl9 := lo_f2
          rw [hk9, List.take_length] at ho9 hl9
          exact ⟨Ao, co, by rw [hk9, List.take_length]; rfl, ho9, fun k hk => by have := hl9 k hk; omega, (Ext.trans hEw2 x_f2)⟩

end Go.Proofs.Ythhbnodnpajljaa
