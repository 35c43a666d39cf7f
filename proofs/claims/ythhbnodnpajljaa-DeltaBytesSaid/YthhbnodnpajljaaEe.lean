/-
  The law DeltaBytes, walked. No conditions.
-/
import Derived.Test.YthhbnodnpajljaaVxi
import Derived.Test.YthhbnodnpajljaaRows
import Derived.Test.YthhbnodnpajljaaEch
import Derived.Test.YthhbnodnpajljaaEa
import Derived.Test.YthhbnodnpajljaaDr
import Derived.Test.YthhbnodnpajljaaDp
import Derived.Test.YthhbnodnpajljaaDs
set_option linter.unusedVariables false
set_option linter.unusedSimpArgs false
set_option maxRecDepth 100000
set_option maxHeartbeats 4000000
namespace Go.Proofs.Ythhbnodnpajljaa
open Go Go.RowKit Go.Vx

def R64' (i : Int) : Prop := -9223372036854775808 ≤ i ∧ i ≤ 9223372036854775807
theorem pf_17 : plainF Try.prog 17 = true := by kernel_rfl
theorem pf_18 : plainF Try.prog 18 = true := by kernel_rfl
theorem tA_5 : isAggT Try.prog 5 = some false := by kernel_rfl

theorem deltaBytes_calls (l : List UInt8) (A : Option Addr) (c : Nat) (x : EB) (w : World) (hA : RowA w A (byC l)) (hlc : l.length ≤ c) (hxd : x.rd w) (hxn : x.e.n ≤ 140737488351232) (hr1 : R64' x.e.pl) (hr2 : R64' x.e.del) :
    Calls Try.prog 6 #[(.slice A l.length c), (.agg #[(.int .i64 x.e.pl), (.int .i64 x.e.del), (.slice x.e.A x.e.n x.e.c)])] w (Ret (fun v w' => v = .bool true ∧ Ext w w')) := by
  unfold R64' at hr1 hr2
  obtain ⟨n, hn⟩ : ∃ n, n = min l.length 300 := ⟨_, rfl⟩
  obtain ⟨B, hB⟩ : ∃ B, B = l.take n := ⟨_, rfl⟩
  have hBl : B.length = n := by rw [hB, List.length_take]; omega
  have hRB : RowA w A (byC B) := by rw [hB, ← byC_take]; exact Go.Proofs.Ythhbnodnpajljaa.RowA.take hA n
  refine calls_xc (n := 172) (f := fun s_ => [(.slice A l.length c), (.agg #[(.int .i64 x.e.pl), (.int .i64 x.e.del), (.slice x.e.A x.e.n x.e.c)])].getD s_ undef) Try.func6 rfl rfl (by simp) (fun s_ => by simp) ?_
  refine xc_seq ?_
  refine xc_region ?_
  refine xl_op (P := Try.prog) (some 3) rfl rfl (ox_box (v := (.agg #[(.int .i64 x.e.pl), (.int .i64 x.e.del), (.slice x.e.A x.e.n x.e.c)])) rfl ?_)
  intro w1 e1 z1 b1
  replace b1 : Blk w1 w.heap.size #[(.int .i64 x.e.pl), (.int .i64 x.e.del), (.slice x.e.A x.e.n x.e.c)] 59 := b1
  refine xl_op (P := Try.prog) (some 4) rfl rfl (ox_assign (v := (.bool false)) rfl ?_)
  refine xl_nil ?_
  refine xc_seq ?_
  refine xc_seq ?_
  refine xc_region ?_
  refine xl_op (P := Try.prog) (some 16) rfl rfl (ox_callE (al := []) pf_17 rfl (ret_mono (head_calls w1) ?_))
  rintro _ w2 ⟨rfl, e2⟩
  have he2 := e2.size
  refine xl_op (P := Try.prog) (some 17) rfl rfl (ox_not (b := true) rfl ?_)
  refine xl_nil ?_
  refine xc_cond_f rfl ?_
  refine xc_skip ?_
  refine xc_seq ?_
  refine xc_region ?_
  refine xl_op (P := Try.prog) (some 18) rfl rfl (ox_move (v := (.slice A l.length c)) rfl ?_)
  refine xl_op (P := Try.prog) (some 5) rfl rfl (ox_assign (v := (.slice A l.length c)) rfl ?_)
  refine xl_nil ?_
  refine xc_seq ?_
  refine xc_seq ?_
  refine xc_region ?_
  refine xl_op (P := Try.prog) (some 19) rfl rfl (ox_move (v := (.slice A l.length c)) rfl ?_)
  refine xl_op (P := Try.prog) (some 20) rfl rfl (ox_len (A := A) (n := l.length) (cp := c) rfl tU_57 rfl ?_)
  refine xl_op (P := Try.prog) (some 21) rfl rfl (ox_gtr (k := .i64) (a := (((l.length : Nat) : Int))) (b := 300) rfl rfl ?_)
  refine xl_nil ?_
  refine xc_cut (fun f' W' => w2 = W' ∧ f' 3 = (.pointer (some ⟨w.heap.size, 0, none⟩)) ∧ f' 5 = (.slice A n c)) ?_ ?_
  · skip
    refine xc_if (p := (300 : Int) < (((l.length : Nat) : Int))) rfl (fun h1 => ?_) (fun h1 => ?_)
    · skip
      have hn3 : n = 300 := by omega
      refine xc_region ?_
      refine xl_op (P := Try.prog) (some 22) rfl rfl (ox_move (v := (.slice A l.length c)) rfl ?_)
      refine xl_op (P := Try.prog) (some 23) rfl rfl (ox_sliceToN (A := A) (cp := c) (i := 300) n tE_57 rfl rfl (by omega) (by omega) (by omega) ?_)
      refine xl_op (P := Try.prog) (some 5) rfl rfl (ox_assign (v := (.slice A n c)) rfl ?_)
      refine xl_nil ?_
      exact ⟨rfl, rfl, rfl, rfl⟩
    · skip
      have hln : l.length = n := by omega
      refine xc_skip ?_
      exact ⟨rfl, rfl, rfl, (congrArg (fun m => Value.slice A m c) hln)⟩
  rintro f1 _ ⟨rfl, g3_f1, g5_f1⟩
  refine xc_seq ?_
  refine xc_seq ?_
  refine xc_region ?_
  refine xl_op (P := Try.prog) (some 24) rfl rfl (ox_fieldAddr (b := w.heap.size) (o := 0) tF_59_0 g3_f1 ?_)
  refine xl_op (P := Try.prog) (some 25) rfl rfl (ox_load (v := (.int .i64 x.e.pl)) tA_3 rfl ((b1.ext e2).cell rfl) ?_)
  refine xl_op (P := Try.prog) (some 26) rfl rfl (ox_lss (k := .i64) (a := x.e.pl) (b := 0) rfl rfl ?_)
  refine xl_op (P := Try.prog) (some 27) rfl rfl (ox_move (v := (.bool (decide ((x.e.pl : Int) < 0)))) rfl ?_)
  by_cases h2 : (x.e.pl : Int) < 0
  · skip
    refine xl_skip (some 28) (j := 3) (b := false) true rfl rfl (congrArg some (decide_eq_true h2)) (by decide) ?_
    refine xl_skip (some 29) (j := 3) (b := false) true rfl rfl (congrArg some (decide_eq_true h2)) (by decide) ?_
    refine xl_skip (some 30) (j := 3) (b := false) true rfl rfl (congrArg some (decide_eq_true h2)) (by decide) ?_
    refine xl_op (P := Try.prog) (some 31) rfl rfl (ox_pick_t (v := (.bool true)) (congrArg Value.bool (decide_eq_true h2)) rfl ?_)
    refine xl_op (P := Try.prog) (some 32) rfl rfl (ox_move (v := (.bool true)) rfl ?_)
    refine xl_skip (some 33) (j := 8) (b := false) true rfl rfl rfl (by decide) ?_
    refine xl_skip (some 34) (j := 8) (b := false) true rfl rfl rfl (by decide) ?_
    refine xl_skip (some 35) (j := 8) (b := false) true rfl rfl rfl (by decide) ?_
    refine xl_skip (some 36) (j := 8) (b := false) true rfl rfl rfl (by decide) ?_
    refine xl_skip (some 37) (j := 8) (b := false) true rfl rfl rfl (by decide) ?_
    refine xl_op (P := Try.prog) (some 38) rfl rfl (ox_pick_t (v := (.bool true)) rfl rfl ?_)
    refine xl_op (P := Try.prog) (some 39) rfl rfl (ox_move (v := (.bool true)) rfl ?_)
    refine xl_skip (some 40) (j := 15) (b := false) true rfl rfl rfl (by decide) ?_
    refine xl_skip (some 41) (j := 15) (b := false) true rfl rfl rfl (by decide) ?_
    refine xl_skip (some 42) (j := 15) (b := false) true rfl rfl rfl (by decide) ?_
    refine xl_skip (some 43) (j := 15) (b := false) true rfl rfl rfl (by decide) ?_
    refine xl_skip (some 44) (j := 15) (b := false) true rfl rfl rfl (by decide) ?_
    refine xl_skip (some 45) (j := 15) (b := false) true rfl rfl rfl (by decide) ?_
    refine xl_skip (some 46) (j := 15) (b := false) true rfl rfl rfl (by decide) ?_
    refine xl_skip (some 47) (j := 15) (b := false) true rfl rfl rfl (by decide) ?_
    refine xl_op (P := Try.prog) (some 48) rfl rfl (ox_pick_t (v := (.bool true)) rfl rfl ?_)
    refine xl_op (P := Try.prog) (some 49) rfl rfl (ox_move (v := (.bool true)) rfl ?_)
    refine xl_skip (some 50) (j := 25) (b := false) true rfl rfl rfl (by decide) ?_
    refine xl_skip (some 51) (j := 25) (b := false) true rfl rfl rfl (by decide) ?_
    refine xl_skip (some 52) (j := 25) (b := false) true rfl rfl rfl (by decide) ?_
    refine xl_skip (some 53) (j := 25) (b := false) true rfl rfl rfl (by decide) ?_
    refine xl_op (P := Try.prog) (some 54) rfl rfl (ox_pick_t (v := (.bool true)) rfl rfl ?_)
    refine xl_nil ?_
    refine xc_cond_t rfl ?_
    refine xc_seq ?_
    refine xc_region ?_
    refine xl_op (P := Try.prog) (some 4) rfl rfl (ox_assign (v := (.bool true)) rfl ?_)
    refine xl_nil ?_
    refine xc_ret ?_
    change leaves _ _ _ _ _ _ _
    refine leaves_nil (n := 172) (rs := [.tmp 4]) (vs := [(.bool true)]) rfl ⟨⟨by decide, rfl⟩, trivial⟩ ?_
    exact ⟨rfl, (Ext.trans e1 e2)⟩
  · skip
    refine xl_opg (P := Try.prog) (some 28) (j := 3) (b := false) rfl rfl (congrArg some (decide_eq_false h2)) (ox_fieldAddr (b := w.heap.size) (o := 0) tF_59_1 g3_f1 ?_)
    refine xl_opg (P := Try.prog) (some 29) (j := 3) (b := false) rfl rfl (congrArg some (decide_eq_false h2)) (ox_load (v := (.int .i64 x.e.del)) tA_3 rfl ((b1.ext e2).cell rfl) ?_)
    refine xl_opg (P := Try.prog) (some 30) (j := 3) (b := false) rfl rfl (congrArg some (decide_eq_false h2)) (ox_lss (k := .i64) (a := x.e.del) (b := 0) rfl rfl ?_)
    refine xl_op (P := Try.prog) (some 31) rfl rfl (ox_pick_f (v := (.bool (decide ((x.e.del : Int) < 0)))) (congrArg Value.bool (decide_eq_false h2)) rfl ?_)
    refine xl_op (P := Try.prog) (some 32) rfl rfl (ox_move (v := (.bool (decide ((x.e.del : Int) < 0)))) rfl ?_)
    by_cases h3 : (x.e.del : Int) < 0
    · skip
      refine xl_skip (some 33) (j := 8) (b := false) true rfl rfl (congrArg some (decide_eq_true h3)) (by decide) ?_
      refine xl_skip (some 34) (j := 8) (b := false) true rfl rfl (congrArg some (decide_eq_true h3)) (by decide) ?_
      refine xl_skip (some 35) (j := 8) (b := false) true rfl rfl (congrArg some (decide_eq_true h3)) (by decide) ?_
      refine xl_skip (some 36) (j := 8) (b := false) true rfl rfl (congrArg some (decide_eq_true h3)) (by decide) ?_
      refine xl_skip (some 37) (j := 8) (b := false) true rfl rfl (congrArg some (decide_eq_true h3)) (by decide) ?_
      refine xl_op (P := Try.prog) (some 38) rfl rfl (ox_pick_t (v := (.bool true)) (congrArg Value.bool (decide_eq_true h3)) rfl ?_)
      refine xl_op (P := Try.prog) (some 39) rfl rfl (ox_move (v := (.bool true)) rfl ?_)
      refine xl_skip (some 40) (j := 15) (b := false) true rfl rfl rfl (by decide) ?_
      refine xl_skip (some 41) (j := 15) (b := false) true rfl rfl rfl (by decide) ?_
      refine xl_skip (some 42) (j := 15) (b := false) true rfl rfl rfl (by decide) ?_
      refine xl_skip (some 43) (j := 15) (b := false) true rfl rfl rfl (by decide) ?_
      refine xl_skip (some 44) (j := 15) (b := false) true rfl rfl rfl (by decide) ?_
      refine xl_skip (some 45) (j := 15) (b := false) true rfl rfl rfl (by decide) ?_
      refine xl_skip (some 46) (j := 15) (b := false) true rfl rfl rfl (by decide) ?_
      refine xl_skip (some 47) (j := 15) (b := false) true rfl rfl rfl (by decide) ?_
      refine xl_op (P := Try.prog) (some 48) rfl rfl (ox_pick_t (v := (.bool true)) rfl rfl ?_)
      refine xl_op (P := Try.prog) (some 49) rfl rfl (ox_move (v := (.bool true)) rfl ?_)
      refine xl_skip (some 50) (j := 25) (b := false) true rfl rfl rfl (by decide) ?_
      refine xl_skip (some 51) (j := 25) (b := false) true rfl rfl rfl (by decide) ?_
      refine xl_skip (some 52) (j := 25) (b := false) true rfl rfl rfl (by decide) ?_
      refine xl_skip (some 53) (j := 25) (b := false) true rfl rfl rfl (by decide) ?_
      refine xl_op (P := Try.prog) (some 54) rfl rfl (ox_pick_t (v := (.bool true)) rfl rfl ?_)
      refine xl_nil ?_
      refine xc_cond_t rfl ?_
      refine xc_seq ?_
      refine xc_region ?_
      refine xl_op (P := Try.prog) (some 4) rfl rfl (ox_assign (v := (.bool true)) rfl ?_)
      refine xl_nil ?_
      refine xc_ret ?_
      change leaves _ _ _ _ _ _ _
      refine leaves_nil (n := 172) (rs := [.tmp 4]) (vs := [(.bool true)]) rfl ⟨⟨by decide, rfl⟩, trivial⟩ ?_
      exact ⟨rfl, (Ext.trans e1 e2)⟩
    · skip
      refine xl_opg (P := Try.prog) (some 33) (j := 8) (b := false) rfl rfl (congrArg some (decide_eq_false h3)) (ox_fieldAddr (b := w.heap.size) (o := 0) tF_59_0 g3_f1 ?_)
      refine xl_opg (P := Try.prog) (some 34) (j := 8) (b := false) rfl rfl (congrArg some (decide_eq_false h3)) (ox_load (v := (.int .i64 x.e.pl)) tA_3 rfl ((b1.ext e2).cell rfl) ?_)
      refine xl_opg (P := Try.prog) (some 35) (j := 8) (b := false) rfl rfl (congrArg some (decide_eq_false h3)) (ox_move (v := (.slice A n c)) g5_f1 ?_)
      refine xl_opg (P := Try.prog) (some 36) (j := 8) (b := false) rfl rfl (congrArg some (decide_eq_false h3)) (ox_len (A := A) (n := n) (cp := c) rfl tU_57 rfl ?_)
      refine xl_opg (P := Try.prog) (some 37) (j := 8) (b := false) rfl rfl (congrArg some (decide_eq_false h3)) (ox_gtr (k := .i64) (a := x.e.pl) (b := (((n : Nat) : Int))) rfl rfl ?_)
      refine xl_op (P := Try.prog) (some 38) rfl rfl (ox_pick_f (v := (.bool (decide ((((n : Nat) : Int) : Int) < x.e.pl)))) (congrArg Value.bool (decide_eq_false h3)) rfl ?_)
      refine xl_op (P := Try.prog) (some 39) rfl rfl (ox_move (v := (.bool (decide ((((n : Nat) : Int) : Int) < x.e.pl)))) rfl ?_)
      by_cases h4 : (((n : Nat) : Int) : Int) < x.e.pl
      · skip
        refine xl_skip (some 40) (j := 15) (b := false) true rfl rfl (congrArg some (decide_eq_true h4)) (by decide) ?_
        refine xl_skip (some 41) (j := 15) (b := false) true rfl rfl (congrArg some (decide_eq_true h4)) (by decide) ?_
        refine xl_skip (some 42) (j := 15) (b := false) true rfl rfl (congrArg some (decide_eq_true h4)) (by decide) ?_
        refine xl_skip (some 43) (j := 15) (b := false) true rfl rfl (congrArg some (decide_eq_true h4)) (by decide) ?_
        refine xl_skip (some 44) (j := 15) (b := false) true rfl rfl (congrArg some (decide_eq_true h4)) (by decide) ?_
        refine xl_skip (some 45) (j := 15) (b := false) true rfl rfl (congrArg some (decide_eq_true h4)) (by decide) ?_
        refine xl_skip (some 46) (j := 15) (b := false) true rfl rfl (congrArg some (decide_eq_true h4)) (by decide) ?_
        refine xl_skip (some 47) (j := 15) (b := false) true rfl rfl (congrArg some (decide_eq_true h4)) (by decide) ?_
        refine xl_op (P := Try.prog) (some 48) rfl rfl (ox_pick_t (v := (.bool true)) (congrArg Value.bool (decide_eq_true h4)) rfl ?_)
        refine xl_op (P := Try.prog) (some 49) rfl rfl (ox_move (v := (.bool true)) rfl ?_)
        refine xl_skip (some 50) (j := 25) (b := false) true rfl rfl rfl (by decide) ?_
        refine xl_skip (some 51) (j := 25) (b := false) true rfl rfl rfl (by decide) ?_
        refine xl_skip (some 52) (j := 25) (b := false) true rfl rfl rfl (by decide) ?_
        refine xl_skip (some 53) (j := 25) (b := false) true rfl rfl rfl (by decide) ?_
        refine xl_op (P := Try.prog) (some 54) rfl rfl (ox_pick_t (v := (.bool true)) rfl rfl ?_)
        refine xl_nil ?_
        refine xc_cond_t rfl ?_
        refine xc_seq ?_
        refine xc_region ?_
        refine xl_op (P := Try.prog) (some 4) rfl rfl (ox_assign (v := (.bool true)) rfl ?_)
        refine xl_nil ?_
        refine xc_ret ?_
        change leaves _ _ _ _ _ _ _
        refine leaves_nil (n := 172) (rs := [.tmp 4]) (vs := [(.bool true)]) rfl ⟨⟨by decide, rfl⟩, trivial⟩ ?_
        exact ⟨rfl, (Ext.trans e1 e2)⟩
      · skip
        refine xl_opg (P := Try.prog) (some 40) (j := 15) (b := false) rfl rfl (congrArg some (decide_eq_false h4)) (ox_fieldAddr (b := w.heap.size) (o := 0) tF_59_1 g3_f1 ?_)
        refine xl_opg (P := Try.prog) (some 41) (j := 15) (b := false) rfl rfl (congrArg some (decide_eq_false h4)) (ox_load (v := (.int .i64 x.e.del)) tA_3 rfl ((b1.ext e2).cell rfl) ?_)
        refine xl_opg (P := Try.prog) (some 42) (j := 15) (b := false) rfl rfl (congrArg some (decide_eq_false h4)) (ox_move (v := (.slice A n c)) g5_f1 ?_)
        refine xl_opg (P := Try.prog) (some 43) (j := 15) (b := false) rfl rfl (congrArg some (decide_eq_false h4)) (ox_len (A := A) (n := n) (cp := c) rfl tU_57 rfl ?_)
        refine xl_opg (P := Try.prog) (some 44) (j := 15) (b := false) rfl rfl (congrArg some (decide_eq_false h4)) (ox_fieldAddr (b := w.heap.size) (o := 0) tF_59_0 g3_f1 ?_)
        refine xl_opg (P := Try.prog) (some 45) (j := 15) (b := false) rfl rfl (congrArg some (decide_eq_false h4)) (ox_load (v := (.int .i64 x.e.pl)) tA_3 rfl ((b1.ext e2).cell rfl) ?_)
        refine xl_opg (P := Try.prog) (some 46) (j := 15) (b := false) rfl rfl (congrArg some (decide_eq_false h4)) (ox_sub64 (a := (((n : Nat) : Int))) (b := x.e.pl) rfl rfl (by omega) ?_)
        refine xl_opg (P := Try.prog) (some 47) (j := 15) (b := false) rfl rfl (congrArg some (decide_eq_false h4)) (ox_gtr (k := .i64) (a := x.e.del) (b := (((n : Nat) : Int) - x.e.pl)) rfl rfl ?_)
        refine xl_op (P := Try.prog) (some 48) rfl rfl (ox_pick_f (v := (.bool (decide ((((n : Nat) : Int) - x.e.pl : Int) < x.e.del)))) (congrArg Value.bool (decide_eq_false h4)) rfl ?_)
        refine xl_op (P := Try.prog) (some 49) rfl rfl (ox_move (v := (.bool (decide ((((n : Nat) : Int) - x.e.pl : Int) < x.e.del)))) rfl ?_)
        by_cases h5 : (((n : Nat) : Int) - x.e.pl : Int) < x.e.del
        · skip
          refine xl_skip (some 50) (j := 25) (b := false) true rfl rfl (congrArg some (decide_eq_true h5)) (by decide) ?_
          refine xl_skip (some 51) (j := 25) (b := false) true rfl rfl (congrArg some (decide_eq_true h5)) (by decide) ?_
          refine xl_skip (some 52) (j := 25) (b := false) true rfl rfl (congrArg some (decide_eq_true h5)) (by decide) ?_
          refine xl_skip (some 53) (j := 25) (b := false) true rfl rfl (congrArg some (decide_eq_true h5)) (by decide) ?_
          refine xl_op (P := Try.prog) (some 54) rfl rfl (ox_pick_t (v := (.bool true)) (congrArg Value.bool (decide_eq_true h5)) rfl ?_)
          refine xl_nil ?_
          refine xc_cond_t rfl ?_
          refine xc_seq ?_
          refine xc_region ?_
          refine xl_op (P := Try.prog) (some 4) rfl rfl (ox_assign (v := (.bool true)) rfl ?_)
          refine xl_nil ?_
          refine xc_ret ?_
          change leaves _ _ _ _ _ _ _
          refine leaves_nil (n := 172) (rs := [.tmp 4]) (vs := [(.bool true)]) rfl ⟨⟨by decide, rfl⟩, trivial⟩ ?_
          exact ⟨rfl, (Ext.trans e1 e2)⟩
        · skip
          refine xl_opg (P := Try.prog) (some 50) (j := 25) (b := false) rfl rfl (congrArg some (decide_eq_false h5)) (ox_fieldAddr (b := w.heap.size) (o := 0) tF_59_2 g3_f1 ?_)
          refine xl_opg (P := Try.prog) (some 51) (j := 25) (b := false) rfl rfl (congrArg some (decide_eq_false h5)) (ox_load (v := (.slice x.e.A x.e.n x.e.c)) tA_57 rfl ((b1.ext e2).cell rfl) ?_)
          refine xl_opg (P := Try.prog) (some 52) (j := 25) (b := false) rfl rfl (congrArg some (decide_eq_false h5)) (ox_len (A := x.e.A) (n := x.e.n) (cp := x.e.c) rfl tU_57 rfl ?_)
          refine xl_opg (P := Try.prog) (some 53) (j := 25) (b := false) rfl rfl (congrArg some (decide_eq_false h5)) (ox_gtr (k := .i64) (a := (((x.e.n : Nat) : Int))) (b := 1000) rfl rfl ?_)
          refine xl_op (P := Try.prog) (some 54) rfl rfl (ox_pick_f (v := (.bool (decide ((1000 : Int) < (((x.e.n : Nat) : Int)))))) (congrArg Value.bool (decide_eq_false h5)) rfl ?_)
          refine xl_nil ?_
          refine xc_if (p := (1000 : Int) < (((x.e.n : Nat) : Int))) rfl (fun h6 => ?_) (fun h6 => ?_)
          · skip
            refine xc_seq ?_
            refine xc_region ?_
            refine xl_op (P := Try.prog) (some 4) rfl rfl (ox_assign (v := (.bool true)) rfl ?_)
            refine xl_nil ?_
            refine xc_ret ?_
            change leaves _ _ _ _ _ _ _
            refine leaves_nil (n := 172) (rs := [.tmp 4]) (vs := [(.bool true)]) rfl ⟨⟨by decide, rfl⟩, trivial⟩ ?_
            exact ⟨rfl, (Ext.trans e1 e2)⟩
          · skip
            refine xc_skip ?_
            refine xc_seq ?_
            obtain ⟨a, ha⟩ : ∃ a : Nat, x.e.pl = a := ⟨x.e.pl.toNat, by omega⟩
            obtain ⟨d, hd⟩ : ∃ d : Nat, x.e.del = d := ⟨x.e.del.toNat, by omega⟩
            have had : a + d ≤ n := by omega
            have hk : x.e.n ≤ 1000 := by omega
            refine xc_region ?_
            refine xl_op (P := Try.prog) (some 6) rfl rfl (ox_assign (v := (.slice none 0 0)) rfl ?_)
            refine xl_nil ?_
            refine xc_seq ?_
            refine xc_region ?_
            refine xl_op (P := Try.prog) (some 55) rfl rfl (ox_move (v := (.slice none 0 0)) rfl ?_)
            refine xl_op (P := Try.prog) (some 56) rfl rfl (ox_move (v := (.slice A n c)) g5_f1 ?_)
            refine xl_op (P := Try.prog) (some 57) rfl rfl (ox_fieldAddr (b := w.heap.size) (o := 0) tF_59_0 g3_f1 ?_)
            refine xl_op (P := Try.prog) (some 58) rfl rfl (ox_load (v := (.int .i64 x.e.pl)) tA_3 rfl ((b1.ext e2).cell rfl) ?_)
            refine xl_op (P := Try.prog) (some 59) rfl rfl (ox_sliceToN (A := A) (cp := c) (i := x.e.pl) a tE_57 rfl rfl (by omega) (by omega) (by omega) ?_)
            refine xl_op (P := Try.prog) (some 60) rfl rfl (ox_appendR (n := 0) (m := a) (xs := ([])) (news := ((byC (B.take a)))) rfl tE_57 rfl (by decide) (v := (.slice none 0 0)) rfl rfl (Vx.Own.nil w2 5 1) (by rw [byC_len, List.length_take]; omega) (by rw [← byC_take]; exact RowA.ext (Go.Proofs.Ythhbnodnpajljaa.RowA.take hRB a) (Ext.trans e1 e2)) (byC_one _) (by omega) (by omega) ?_)
            intro v1 w3 o1 e3 at1 nil1
            have he3 := e3.size
            obtain ⟨A1, c1, rfl, hc1⟩ := o1.shape
            have low1 : ∀ _k, (Value.slice A1 (0 + a) c1).ownBlock = some _k → w.heap.size ≤ _k := fun _k _h => by rcases at1 with _e | _e <;> rw [_e] at _h; exact (fun _k _h => by simp [Value.ownBlock] at _h) _k _h; exact (by cases _h; omega)
            replace o1 : Vx.Own w3 5 1 (.slice A1 (0 + a) c1) (0 + a) ((byC (B.take a))) := by simpa using o1
            refine xl_op (P := Try.prog) (some 6) rfl rfl (ox_assign (v := (.slice A1 (0 + a) c1)) rfl ?_)
            refine xl_nil ?_
            refine xc_seq ?_
            refine xc_region ?_
            refine xl_op (P := Try.prog) (some 61) rfl rfl (ox_move (v := (.slice A1 (0 + a) c1)) rfl ?_)
            refine xl_op (P := Try.prog) (some 62) rfl rfl (ox_fieldAddr (b := w.heap.size) (o := 0) tF_59_2 g3_f1 ?_)
            have q1 := ((b1.ext e2).keep e3 (fun _h => (Vx.Own.nil w2 5 1).ne_blk (b1.ext e2) (by decide) _ _h rfl))
            refine xl_op (P := Try.prog) (some 63) rfl rfl (ox_load (v := (.slice x.e.A x.e.n x.e.c)) tA_57 rfl (q1.cell rfl) ?_)
            refine xl_op (P := Try.prog) (some 64) rfl rfl (ox_appendR (n := (0 + a)) (m := x.e.n) (xs := ((byC (B.take a)))) (news := ((byC x.bs))) rfl tE_57 rfl (by decide) (v := (.slice A1 (0 + a) c1)) rfl rfl o1 (by rw [byC_len, hxd.1, Nat.mul_one]) (RowA.ext hxd.2 (Chg.trans (Ext.trans e1 e2) e3 (fun b hb hl => by simp [Value.ownBlock] at hb))) (byC_one _) (by omega) (by omega) ?_)
            intro v2 w4 o2 e4 at2 nil2
            have he4 := e4.size
            obtain ⟨A2, c2, rfl, hc2⟩ := o2.shape
            have low2 : ∀ _k, (Value.slice A2 (0 + a + x.e.n) c2).ownBlock = some _k → w.heap.size ≤ _k := fun _k _h => by rcases at2 with _e | _e <;> rw [_e] at _h; exact low1 _k _h; exact (by cases _h; omega)
            refine xl_op (P := Try.prog) (some 6) rfl rfl (ox_assign (v := (.slice A2 (0 + a + x.e.n) c2)) rfl ?_)
            refine xl_nil ?_
            refine xc_seq ?_
            refine xc_region ?_
            refine xl_op (P := Try.prog) (some 65) rfl rfl (ox_move (v := (.slice A2 (0 + a + x.e.n) c2)) rfl ?_)
            refine xl_op (P := Try.prog) (some 66) rfl rfl (ox_move (v := (.slice A n c)) g5_f1 ?_)
            refine xl_op (P := Try.prog) (some 67) rfl rfl (ox_fieldAddr (b := w.heap.size) (o := 0) tF_59_0 g3_f1 ?_)
            have q2 := (q1.keep e4 (fun _h => o1.ne_blk q1 (by decide) _ _h rfl))
            refine xl_op (P := Try.prog) (some 68) rfl rfl (ox_load (v := (.int .i64 x.e.pl)) tA_3 rfl (q2.cell rfl) ?_)
            refine xl_op (P := Try.prog) (some 69) rfl rfl (ox_fieldAddr (b := w.heap.size) (o := 0) tF_59_1 g3_f1 ?_)
            refine xl_op (P := Try.prog) (some 70) rfl rfl (ox_load (v := (.int .i64 x.e.del)) tA_3 rfl (q2.cell rfl) ?_)
            refine xl_op (P := Try.prog) (some 71) rfl rfl (ox_add64 (a := x.e.pl) (b := x.e.del) rfl rfl (by omega) ?_)
            refine xl_op (P := Try.prog) (some 72) rfl rfl (ox_sliceFromR (A := A) (n := n) (cp := c) (i := (x.e.pl + x.e.del)) (vs := ((byC B))) ((a + d)) tE_57 rfl rfl (by omega) (by omega) (by omega) (RowA.ext hRB (Chg.trans (Chg.trans (Ext.trans e1 e2) e3 (fun b hb hl => by simp [Value.ownBlock] at hb)) e4 (fun b hb hl => absurd hl (by have := low1 b hb; omega)))) (by rw [byC_len]; omega) ?_)
            intro As1 hrs1 hns1
            refine xl_op (P := Try.prog) (some 73) rfl rfl (ox_appendR (n := (0 + a + x.e.n)) (m := ((n - ((a + d))))) (xs := ((byC (B.take a)) ++ (byC x.bs))) (news := ((byC (B.drop (a + d))))) rfl tE_57 rfl (by decide) (v := (.slice A2 (0 + a + x.e.n) c2)) rfl rfl o2 (by rw [byC_len, List.length_drop]; omega) (by have h := hrs1; rw [Nat.mul_one, byC_drop] at h; exact h) (byC_one _) (by omega) (by omega) ?_)
            intro v3 w5 o3 e5 at3 nil3
            have he5 := e5.size
            obtain ⟨A3, c3, rfl, hc3⟩ := o3.shape
            have low3 : ∀ _k, (Value.slice A3 (0 + a + x.e.n + (n - ((a + d)))) c3).ownBlock = some _k → w.heap.size ≤ _k := fun _k _h => by rcases at3 with _e | _e <;> rw [_e] at _h; exact low2 _k _h; exact (by cases _h; omega)
            refine xl_op (P := Try.prog) (some 6) rfl rfl (ox_assign (v := (.slice A3 (0 + a + x.e.n + (n - ((a + d)))) c3)) rfl ?_)
            refine xl_nil ?_
            refine xc_seq ?_
            refine xc_region ?_
            refine xl_op (P := Try.prog) (some 7) rfl rfl (ox_assign (v := (.int .i64 0)) rfl ?_)
            refine xl_nil ?_
            refine xc_seq ?_
            refine xc_region ?_
            refine xl_op (P := Try.prog) (some 8) rfl rfl (ox_assign (v := (.int .i64 0)) rfl ?_)
            refine xl_nil ?_
            refine xc_seq ?_
            refine xc_seq ?_
            refine xc_region ?_
            refine xl_op (P := Try.prog) (some 9) rfl rfl (ox_assign (v := (.int .i64 0)) rfl ?_)
            refine xl_nil ?_
            refine xc_block ?_
            have q3 := (q2.keep e5 (fun _h => o2.ne_blk q2 (by decide) _ _h rfl))
            have hbs := hxd.1
            have hxs : (byC (B.take a)) ++ (byC x.bs) ++ (byC (B.drop (a + d))) = byC (editL B x.bs a d) := by rw [editL, ← byC_app, ← byC_app]
            have hel := editL_len (b := B) (ins := x.bs) (a := a) (d := d) (by omega)
            have ho6 := o3
            rw [hxs] at ho6
            refine xc_loopN (fun m f W => ∃ (p : Nat) (lst : Int) (bf : Int), m = n + 1 - p ∧ p ≤ n + 1 ∧ lst ≤ mv1 0 (p : Nat) a d x.e.n ∧ bf ≤ mv1 (-1) (p : Nat) a d x.e.n ∧ f 3 = (.pointer (some ⟨w.heap.size, 0, none⟩)) ∧ f 5 = (.slice A n c) ∧ f 6 = (.slice A3 (0 + a + x.e.n + (n - ((a + d)))) c3) ∧ f 7 = (.int .i64 lst) ∧ f 8 = (.int .i64 bf) ∧ f 9 = (.int .i64 ((p : Nat))) ∧ Vx.Own W 5 1 (.slice A3 (0 + a + x.e.n + (n - ((a + d)))) c3) (0 + a + x.e.n + (n - ((a + d)))) (byC (editL B x.bs a d)) ∧ Blk W w.heap.size #[(.int .i64 x.e.pl), (.int .i64 x.e.del), (.slice x.e.A x.e.n x.e.c)] 59 ∧ Ext w W) (n + 1) ?_ ?_
            · exact ⟨0, 0, 0, by omega, by omega, by have := mv_facts 0 a d x.e.n n had; simp only [Int.natCast_zero] at this ⊢; omega, by have := mv_facts 0 a d x.e.n n had; simp only [Int.natCast_zero] at this ⊢; omega, g3_f1, g5_f1, rfl, (by first | exact rfl | exact (congrArg (Value.int .i64) (by omega))), (by first | exact rfl | exact (congrArg (Value.int .i64) (by omega))), (by first | exact rfl | exact (congrArg (Value.int .i64) (by omega))), ho6, q3, (Chg.trans (Chg.trans (Chg.trans (Ext.trans e1 e2) e3 (fun b hb hl => by simp [Value.ownBlock] at hb)) e4 (fun b hb hl => absurd hl (by have := low1 b hb; omega))) e5 (fun b hb hl => absurd hl (by have := low2 b hb; omega)))⟩
            · rintro m f2 w6 ⟨p, lst, bf, hm, hp, hls, hbf, g3_f2, g5_f2, g6_f2, g7_f2, g8_f2, g9_f2, o6_f2, b3_f2, e_f2⟩
              obtain ⟨X, hX⟩ : ∃ X, X = mv1 0 (p : Nat) a d x.e.n := ⟨_, rfl⟩
              obtain ⟨Y, hY⟩ : ∃ Y, Y = mv1 (-1) (p : Nat) a d x.e.n := ⟨_, rfl⟩
              obtain ⟨X', hX'⟩ : ∃ X', X' = mv1 0 ((p : Nat) + 1) a d x.e.n := ⟨_, rfl⟩
              obtain ⟨Z, hZ⟩ : ∃ Z, Z = mv1 (-1) ((p : Nat) + 1) a d x.e.n := ⟨_, rfl⟩
              have hmf := mv_facts p a d x.e.n n had
              rw [← hX, ← hY, ← hX', ← hZ] at hmf
              rw [← hX] at hls
              rw [← hY] at hbf
              obtain ⟨m1, m2, m3, m4, m5, m6⟩ := hmf
              have hzE := e_f2.size
              refine xc_seq ?_
              refine xc_seq ?_
              refine xc_region ?_
              refine xl_op (P := Try.prog) (some 74) rfl rfl (ox_move (v := (.int .i64 ((p : Nat)))) g9_f2 ?_)
              refine xl_op (P := Try.prog) (some 75) rfl rfl (ox_move (v := (.slice A n c)) g5_f2 ?_)
              refine xl_op (P := Try.prog) (some 76) rfl rfl (ox_len (A := A) (n := n) (cp := c) rfl tU_57 rfl ?_)
              refine xl_op (P := Try.prog) (some 77) rfl rfl (ox_leq (k := .i64) (a := ((p : Nat))) (b := (((n : Nat) : Int))) rfl rfl ?_)
              refine xl_nil ?_
              refine xc_if (p := ((p : Nat) : Int) ≤ (((n : Nat) : Int))) rfl (fun h7 => ?_) (fun h7 => ?_)
              · skip
                refine xc_skip ?_
                refine xc_seq ?_
                refine xc_block ?_
                refine xc_seq ?_
                refine xc_region ?_
                refine xl_op (P := Try.prog) (some 81) rfl rfl (ox_move (v := (.int .i64 ((p : Nat)))) g9_f2 ?_)
                refine xl_op (P := Try.prog) (some 82) rfl rfl (ox_loadN (vs := [(.int .i64 x.e.pl), (.int .i64 x.e.del), (.slice x.e.A x.e.n x.e.c)]) tA_59 tS_59 g3_f2 rfl ⟨b3_f2.cell rfl, b3_f2.cell rfl, b3_f2.cell rfl, trivial⟩ ?_)
                refine xl_op (P := Try.prog) (some 83) rfl rfl (ox_mkSlice (ps := [(0, (.agg #[(.int .i64 x.e.pl), (.int .i64 x.e.del), (.slice x.e.A x.e.n x.e.c)]))]) (zs := #[(.int .i64 0), (.int .i64 0), (.slice none 0 0)]) (cs := #[(.int .i64 x.e.pl), (.int .i64 x.e.del), (.slice x.e.A x.e.n x.e.c)]) tE_43 rfl (by decide) (by kernel_rfl) (by kernel_rfl) ?_)
                intro w7 e6 z2 b2
                replace b2 : Blk w7 w6.heap.size #[(.int .i64 x.e.pl), (.int .i64 x.e.del), (.slice x.e.A x.e.n x.e.c)] 59 := b2
                refine xl_op (P := Try.prog) (some 84) rfl rfl (ox_callE (al := [(.slice (some ⟨w6.heap.size, 0, none⟩) 1 1)]) pf_18 rfl (ret_mono (edits_calls [x] (some ⟨w6.heap.size, 0, none⟩) 1 w7 ⟨fun _ => rfl, by simpa [edC, Ed.cs] using b2.all⟩ (by simp) (by intro y hy; simp at hy; subst hy; exact hxn) (by intro y hy; simp at hy; subst hy; exact hxd.ext (Ext.trans e_f2 e6))) ?_))
                rintro _ w8 ⟨gz3, cz3, ysz3, rfl, hcmz3, hOz3, hgz3, hCz3, e7⟩
                have he7 := e7.size
                have hylz3 : ysz3.length = 1 := hCz3.1.symm
                have heqz3 : ysz3.map Ed.e3 = [((a : Int), (d : Int), (x.e.n : Int))] := by rw [hCz3.e3]; simp [Ed.e3, ha, hd]
                refine xl_op (P := Try.prog) (some 85) rfl rfl (ox_callE (al := [(.int .i64 ((p : Nat))), (.int .i64 0), (.slice (some ⟨gz3, 0, none⟩) 1 cz3)]) pf_19 rfl (ret_mono ((by have h := move_calls ((p : Nat)) (0) ysz3 (some ⟨gz3, 0, none⟩) cz3 w8 (Own.front (ms := [edM]) hOz3 hylz3); rw [hylz3, heqz3, move_one n (by omega) (by omega) had hk, ← hX] at h; exact h)) ?_))
                rintro _ w9 ⟨rfl, e8⟩
                have he8 := e8.size
                refine xl_op (P := Try.prog) (some 80) rfl rfl (ox_move (v := (.tuple #[(.int .i64 X), (.int .i64 0)])) rfl ?_)
                refine xl_op (P := Try.prog) (some 86) rfl rfl (ox_extract (vs := #[(.int .i64 X), (.int .i64 0)]) (v := (.int .i64 X)) rfl rfl ?_)
                refine xl_op (P := Try.prog) (some 87) rfl rfl (ox_extract (vs := #[(.int .i64 X), (.int .i64 0)]) (v := (.int .i64 0)) rfl rfl ?_)
                refine xl_op (P := Try.prog) (some 10) rfl rfl (ox_assign (v := (.int .i64 X)) rfl ?_)
                refine xl_op (P := Try.prog) (some 11) rfl rfl (ox_assign (v := (.int .i64 0)) rfl ?_)
                refine xl_nil ?_
                refine xc_seq ?_
                refine xc_region ?_
                refine xl_op (P := Try.prog) (some 89) rfl rfl (ox_move (v := (.int .i64 ((p : Nat)))) g9_f2 ?_)
                refine xl_op (P := Try.prog) (some 90) rfl rfl (ox_loadN (vs := [(.int .i64 x.e.pl), (.int .i64 x.e.del), (.slice x.e.A x.e.n x.e.c)]) tA_59 tS_59 g3_f2 rfl ⟨(((b3_f2.ext e6).ext e7).ext e8).cell rfl, (((b3_f2.ext e6).ext e7).ext e8).cell rfl, (((b3_f2.ext e6).ext e7).ext e8).cell rfl, trivial⟩ ?_)
                refine xl_op (P := Try.prog) (some 91) rfl rfl (ox_mkSlice (ps := [(0, (.agg #[(.int .i64 x.e.pl), (.int .i64 x.e.del), (.slice x.e.A x.e.n x.e.c)]))]) (zs := #[(.int .i64 0), (.int .i64 0), (.slice none 0 0)]) (cs := #[(.int .i64 x.e.pl), (.int .i64 x.e.del), (.slice x.e.A x.e.n x.e.c)]) tE_43 rfl (by decide) (by kernel_rfl) (by kernel_rfl) ?_)
                intro w10 e9 z4 b3
                replace b3 : Blk w10 w9.heap.size #[(.int .i64 x.e.pl), (.int .i64 x.e.del), (.slice x.e.A x.e.n x.e.c)] 59 := b3
                refine xl_op (P := Try.prog) (some 92) rfl rfl (ox_callE (al := [(.slice (some ⟨w9.heap.size, 0, none⟩) 1 1)]) pf_18 rfl (ret_mono (edits_calls [x] (some ⟨w9.heap.size, 0, none⟩) 1 w10 ⟨fun _ => rfl, by simpa [edC, Ed.cs] using b3.all⟩ (by simp) (by intro y hy; simp at hy; subst hy; exact hxn) (by intro y hy; simp at hy; subst hy; exact hxd.ext (Ext.trans (Ext.trans (Ext.trans (Ext.trans e_f2 e6) e7) e8) e9))) ?_))
                rintro _ w11 ⟨gz5, cz5, ysz5, rfl, hcmz5, hOz5, hgz5, hCz5, e10⟩
                have he10 := e10.size
                have hylz5 : ysz5.length = 1 := hCz5.1.symm
                have heqz5 : ysz5.map Ed.e3 = [((a : Int), (d : Int), (x.e.n : Int))] := by rw [hCz5.e3]; simp [Ed.e3, ha, hd]
                refine xl_op (P := Try.prog) (some 93) rfl rfl (ox_callE (al := [(.int .i64 ((p : Nat))), (.int .i64 (-1)), (.slice (some ⟨gz5, 0, none⟩) 1 cz5)]) pf_19 rfl (ret_mono ((by have h := move_calls ((p : Nat)) (-1) ysz5 (some ⟨gz5, 0, none⟩) cz5 w11 (Own.front (ms := [edM]) hOz5 hylz5); rw [hylz5, heqz5, move_one n (by omega) (by omega) had hk, ← hY] at h; exact h)) ?_))
                rintro _ w12 ⟨rfl, e11⟩
                have he11 := e11.size
                refine xl_op (P := Try.prog) (some 88) rfl rfl (ox_move (v := (.tuple #[(.int .i64 Y), (.int .i64 0)])) rfl ?_)
                refine xl_op (P := Try.prog) (some 94) rfl rfl (ox_extract (vs := #[(.int .i64 Y), (.int .i64 0)]) (v := (.int .i64 Y)) rfl rfl ?_)
                refine xl_op (P := Try.prog) (some 95) rfl rfl (ox_extract (vs := #[(.int .i64 Y), (.int .i64 0)]) (v := (.int .i64 0)) rfl rfl ?_)
                refine xl_op (P := Try.prog) (some 12) rfl rfl (ox_assign (v := (.int .i64 Y)) rfl ?_)
                refine xl_op (P := Try.prog) (some 13) rfl rfl (ox_assign (v := (.int .i64 0)) rfl ?_)
                refine xl_nil ?_
                refine xc_seq ?_
                refine xc_seq ?_
                refine xc_region ?_
                refine xl_op (P := Try.prog) (some 96) rfl rfl (ox_move (v := (.int .i64 0)) rfl ?_)
                refine xl_op (P := Try.prog) (some 97) rfl rfl (ox_neq (k := .i64) (a := 0) (b := 0) rfl rfl ?_)
                refine xl_op (P := Try.prog) (some 98) rfl rfl (ox_move (v := (.bool (decide ((0 : Int) ≠ 0)))) rfl ?_)
                refine xl_opg (P := Try.prog) (some 99) (j := 2) (b := false) rfl rfl (congrArg some (by decide : decide ((0 : Int) ≠ 0) = false)) (ox_move (v := (.int .i64 0)) rfl ?_)
                refine xl_opg (P := Try.prog) (some 100) (j := 2) (b := false) rfl rfl (congrArg some (by decide : decide ((0 : Int) ≠ 0) = false)) (ox_neq (k := .i64) (a := 0) (b := 0) rfl rfl ?_)
                refine xl_op (P := Try.prog) (some 101) rfl rfl (ox_pick_f (v := (.bool (decide ((0 : Int) ≠ 0)))) (congrArg Value.bool (by decide : decide ((0 : Int) ≠ 0) = false)) rfl ?_)
                refine xl_op (P := Try.prog) (some 102) rfl rfl (ox_move (v := (.bool (decide ((0 : Int) ≠ 0)))) rfl ?_)
                refine xl_opg (P := Try.prog) (some 103) (j := 6) (b := false) rfl rfl (congrArg some (by decide : decide ((0 : Int) ≠ 0) = false)) (ox_move (v := (.int .i64 Y)) rfl ?_)
                refine xl_opg (P := Try.prog) (some 104) (j := 6) (b := false) rfl rfl (congrArg some (by decide : decide ((0 : Int) ≠ 0) = false)) (ox_move (v := (.int .i64 X)) rfl ?_)
                refine xl_opg (P := Try.prog) (some 105) (j := 6) (b := false) rfl rfl (congrArg some (by decide : decide ((0 : Int) ≠ 0) = false)) (ox_gtr (k := .i64) (a := Y) (b := X) rfl rfl ?_)
                refine xl_op (P := Try.prog) (some 106) rfl rfl (ox_pick_f (v := (.bool (decide ((X : Int) < Y)))) (congrArg Value.bool (by decide : decide ((0 : Int) ≠ 0) = false)) rfl ?_)
                refine xl_op (P := Try.prog) (some 107) rfl rfl (ox_move (v := (.bool (decide ((X : Int) < Y)))) rfl ?_)
                refine xl_opg (P := Try.prog) (some 108) (j := 11) (b := false) rfl rfl (congrArg some (decide_eq_false (by omega))) (ox_move (v := (.int .i64 X)) rfl ?_)
                refine xl_opg (P := Try.prog) (some 109) (j := 11) (b := false) rfl rfl (congrArg some (decide_eq_false (by omega))) (ox_move (v := (.int .i64 lst)) g7_f2 ?_)
                refine xl_opg (P := Try.prog) (some 110) (j := 11) (b := false) rfl rfl (congrArg some (decide_eq_false (by omega))) (ox_lss (k := .i64) (a := X) (b := lst) rfl rfl ?_)
                refine xl_op (P := Try.prog) (some 111) rfl rfl (ox_pick_f (v := (.bool (decide ((X : Int) < lst)))) (congrArg Value.bool (decide_eq_false (by omega))) rfl ?_)
                refine xl_op (P := Try.prog) (some 112) rfl rfl (ox_move (v := (.bool (decide ((X : Int) < lst)))) rfl ?_)
                refine xl_opg (P := Try.prog) (some 113) (j := 16) (b := false) rfl rfl (congrArg some (decide_eq_false (by omega))) (ox_move (v := (.int .i64 Y)) rfl ?_)
                refine xl_opg (P := Try.prog) (some 114) (j := 16) (b := false) rfl rfl (congrArg some (decide_eq_false (by omega))) (ox_move (v := (.int .i64 bf)) g8_f2 ?_)
                refine xl_opg (P := Try.prog) (some 115) (j := 16) (b := false) rfl rfl (congrArg some (decide_eq_false (by omega))) (ox_lss (k := .i64) (a := Y) (b := bf) rfl rfl ?_)
                refine xl_op (P := Try.prog) (some 116) rfl rfl (ox_pick_f (v := (.bool (decide ((Y : Int) < bf)))) (congrArg Value.bool (decide_eq_false (by omega))) rfl ?_)
                refine xl_op (P := Try.prog) (some 117) rfl rfl (ox_move (v := (.bool (decide ((Y : Int) < bf)))) rfl ?_)
                refine xl_opg (P := Try.prog) (some 118) (j := 21) (b := false) rfl rfl (congrArg some (decide_eq_false (by omega))) (ox_move (v := (.int .i64 X)) rfl ?_)
                refine xl_opg (P := Try.prog) (some 119) (j := 21) (b := false) rfl rfl (congrArg some (decide_eq_false (by omega))) (ox_move (v := (.slice A3 (0 + a + x.e.n + (n - ((a + d)))) c3)) g6_f2 ?_)
                refine xl_opg (P := Try.prog) (some 120) (j := 21) (b := false) rfl rfl (congrArg some (decide_eq_false (by omega))) (ox_len (A := A3) (n := (0 + a + x.e.n + (n - ((a + d))))) (cp := c3) rfl tU_57 rfl ?_)
                refine xl_opg (P := Try.prog) (some 121) (j := 21) (b := false) rfl rfl (congrArg some (decide_eq_false (by omega))) (ox_gtr (k := .i64) (a := X) (b := (((0 + a + x.e.n + (n - ((a + d))) : Nat) : Int))) rfl rfl ?_)
                refine xl_op (P := Try.prog) (some 122) rfl rfl (ox_pick_f (v := (.bool (decide ((((0 + a + x.e.n + (n - ((a + d))) : Nat) : Int) : Int) < X)))) (congrArg Value.bool (decide_eq_false (by omega))) rfl ?_)
                refine xl_nil ?_
                refine xc_cond_f (congrArg Value.bool (decide_eq_false (by omega))) ?_
                refine xc_skip ?_
                refine xc_seq ?_
                refine xc_region ?_
                refine xl_op (P := Try.prog) (some 123) rfl rfl (ox_move (v := (.int .i64 X)) rfl ?_)
                refine xl_op (P := Try.prog) (some 7) rfl rfl (ox_assign (v := (.int .i64 X)) rfl ?_)
                refine xl_nil ?_
                refine xc_seq ?_
                refine xc_region ?_
                refine xl_op (P := Try.prog) (some 124) rfl rfl (ox_move (v := (.int .i64 Y)) rfl ?_)
                refine xl_op (P := Try.prog) (some 8) rfl rfl (ox_assign (v := (.int .i64 Y)) rfl ?_)
                refine xl_nil ?_
                refine xc_seq ?_
                refine xc_seq ?_
                refine xc_region ?_
                refine xl_op (P := Try.prog) (some 125) rfl rfl (ox_move (v := (.int .i64 ((p : Nat)))) g9_f2 ?_)
                refine xl_op (P := Try.prog) (some 126) rfl rfl (ox_move (v := (.slice A n c)) g5_f2 ?_)
                refine xl_op (P := Try.prog) (some 127) rfl rfl (ox_len (A := A) (n := n) (cp := c) rfl tU_57 rfl ?_)
                refine xl_op (P := Try.prog) (some 128) rfl rfl (ox_eql (k := .i64) (a := ((p : Nat))) (b := (((n : Nat) : Int))) rfl rfl ?_)
                refine xl_op (P := Try.prog) (some 129) rfl rfl (ox_move (v := (.bool (decide (((p : Nat) : Int) = (((n : Nat) : Int)))))) rfl ?_)
                by_cases h8 : ((p : Nat) : Int) = (((n : Nat) : Int))
                · skip
                  refine xl_skip (some 130) (j := 4) (b := false) true rfl rfl (congrArg some (decide_eq_true h8)) (by decide) ?_
                  refine xl_skip (some 131) (j := 4) (b := false) true rfl rfl (congrArg some (decide_eq_true h8)) (by decide) ?_
                  refine xl_skip (some 132) (j := 4) (b := false) true rfl rfl (congrArg some (decide_eq_true h8)) (by decide) ?_
                  refine xl_skip (some 133) (j := 4) (b := false) true rfl rfl (congrArg some (decide_eq_true h8)) (by decide) ?_
                  refine xl_skip (some 134) (j := 4) (b := false) true rfl rfl (congrArg some (decide_eq_true h8)) (by decide) ?_
                  refine xl_skipU (some 135) (j := 9) (b := true) rfl rfl rfl ?_
                  refine xl_skipU (some 136) (j := 9) (b := true) rfl rfl rfl ?_
                  refine xl_skipU (some 137) (j := 9) (b := true) rfl rfl rfl ?_
                  refine xl_skipU (some 138) (j := 9) (b := true) rfl rfl rfl ?_
                  refine xl_skipU (some 139) (j := 9) (b := true) rfl rfl rfl ?_
                  refine xl_skipU (some 140) (j := 9) (b := true) rfl rfl rfl ?_
                  refine xl_skipU (some 141) (j := 9) (b := true) rfl rfl rfl ?_
                  refine xl_skip (some 142) (j := 4) (b := false) true rfl rfl (congrArg some (decide_eq_true h8)) (by decide) ?_
                  refine xl_op (P := Try.prog) (some 143) rfl rfl (ox_pick_t (v := (.bool true)) (congrArg Value.bool (decide_eq_true h8)) rfl ?_)
                  refine xl_nil ?_
                  refine xc_cond_t rfl ?_
                  refine xc_exit ?_
                  refine xc_region ?_
                  refine xl_op (P := Try.prog) (some 78) rfl rfl (ox_move (v := (.int .i64 ((p : Nat)))) g9_f2 ?_)
                  refine xl_op (P := Try.prog) (some 79) rfl rfl (ox_add64 (a := ((p : Nat))) (b := 1) rfl rfl (by omega) ?_)
                  refine xl_op (P := Try.prog) (some 9) rfl rfl (ox_assign (v := (.int .i64 ((p : Nat) + 1))) rfl ?_)
                  refine xl_nil ?_
                  have hsz0 := e6.size
                  have hsz1 := e7.size
                  have hsz2 := e8.size
                  have hsz3 := e9.size
                  have hsz4 := e10.size
                  have hsz5 := e11.size
                  have q4 := ((((o6_f2.ext e6).ext e7).ext e8).ext e9)
                  have hq6 := ((q4.ext e10).ext e11)
                  have q5 := ((((b3_f2.ext e6).ext e7).ext e8).ext e9)
                  have hq3 := ((q5.ext e10).ext e11)
                  exact ⟨rfl, n + 1 - (p + 1), by omega, p + 1, X, Y, by omega, by omega, by rw [show ((p + 1 : Nat) : Int) = (p : Nat) + 1 by omega, ← hX']; omega, by rw [show ((p + 1 : Nat) : Int) = (p : Nat) + 1 by omega, ← hZ]; omega, g3_f2, g5_f2, g6_f2, (by first | exact rfl | exact (congrArg (Value.int .i64) (by omega))), (by first | exact rfl | exact (congrArg (Value.int .i64) (by omega))), (by first | exact rfl | exact (congrArg (Value.int .i64) (by omega))), hq6, hq3, (Ext.trans (Ext.trans (Ext.trans (Ext.trans (Ext.trans (Ext.trans e_f2 e6) e7) e8) e9) e10) e11)⟩
                · skip
                  refine xl_opg (P := Try.prog) (some 130) (j := 4) (b := false) rfl rfl (congrArg some (decide_eq_false h8)) (ox_move (v := (.int .i64 ((p : Nat)))) g9_f2 ?_)
                  refine xl_opg (P := Try.prog) (some 131) (j := 4) (b := false) rfl rfl (congrArg some (decide_eq_false h8)) (ox_fieldAddr (b := w.heap.size) (o := 0) tF_59_0 g3_f2 ?_)
                  have q6 := ((((b3_f2.ext e6).ext e7).ext e8).ext e9)
                  refine xl_opg (P := Try.prog) (some 132) (j := 4) (b := false) rfl rfl (congrArg some (decide_eq_false h8)) (ox_load (v := (.int .i64 x.e.pl)) tA_3 rfl (((q6.ext e10).ext e11).cell rfl) ?_)
                  refine xl_opg (P := Try.prog) (some 133) (j := 4) (b := false) rfl rfl (congrArg some (decide_eq_false h8)) (ox_geq (k := .i64) (a := ((p : Nat))) (b := x.e.pl) rfl rfl ?_)
                  refine xl_opg (P := Try.prog) (some 134) (j := 4) (b := false) rfl rfl (congrArg some (decide_eq_false h8)) (ox_move (v := (.bool (decide ((x.e.pl : Int) ≤ ((p : Nat)))))) rfl ?_)
                  by_cases h9 : (x.e.pl : Int) ≤ ((p : Nat))
                  · skip
                    refine xl_opg (P := Try.prog) (some 135) (j := 9) (b := true) rfl rfl (congrArg some (decide_eq_true h9)) (ox_move (v := (.int .i64 ((p : Nat)))) g9_f2 ?_)
                    refine xl_opg (P := Try.prog) (some 136) (j := 9) (b := true) rfl rfl (congrArg some (decide_eq_true h9)) (ox_fieldAddr (b := w.heap.size) (o := 0) tF_59_0 g3_f2 ?_)
                    refine xl_opg (P := Try.prog) (some 137) (j := 9) (b := true) rfl rfl (congrArg some (decide_eq_true h9)) (ox_load (v := (.int .i64 x.e.pl)) tA_3 rfl (((q6.ext e10).ext e11).cell rfl) ?_)
                    refine xl_opg (P := Try.prog) (some 138) (j := 9) (b := true) rfl rfl (congrArg some (decide_eq_true h9)) (ox_fieldAddr (b := w.heap.size) (o := 0) tF_59_1 g3_f2 ?_)
                    refine xl_opg (P := Try.prog) (some 139) (j := 9) (b := true) rfl rfl (congrArg some (decide_eq_true h9)) (ox_load (v := (.int .i64 x.e.del)) tA_3 rfl (((q6.ext e10).ext e11).cell rfl) ?_)
                    refine xl_opg (P := Try.prog) (some 140) (j := 9) (b := true) rfl rfl (congrArg some (decide_eq_true h9)) (ox_add64 (a := x.e.pl) (b := x.e.del) rfl rfl (by omega) ?_)
                    refine xl_opg (P := Try.prog) (some 141) (j := 9) (b := true) rfl rfl (congrArg some (decide_eq_true h9)) (ox_lss (k := .i64) (a := ((p : Nat))) (b := (x.e.pl + x.e.del)) rfl rfl ?_)
                    refine xl_opg (P := Try.prog) (some 142) (j := 4) (b := false) rfl rfl (congrArg some (decide_eq_false h8)) (ox_pick_t (v := (.bool (decide (((p : Nat) : Int) < (x.e.pl + x.e.del))))) (congrArg Value.bool (decide_eq_true h9)) rfl ?_)
                    refine xl_op (P := Try.prog) (some 143) rfl rfl (ox_pick_f (v := (.bool (decide (((p : Nat) : Int) < (x.e.pl + x.e.del))))) (congrArg Value.bool (decide_eq_false h8)) rfl ?_)
                    refine xl_nil ?_
                    refine xc_if (p := ((p : Nat) : Int) < (x.e.pl + x.e.del)) rfl (fun h10 => ?_) (fun h10 => ?_)
                    · skip
                      refine xc_exit ?_
                      refine xc_region ?_
                      refine xl_op (P := Try.prog) (some 78) rfl rfl (ox_move (v := (.int .i64 ((p : Nat)))) g9_f2 ?_)
                      refine xl_op (P := Try.prog) (some 79) rfl rfl (ox_add64 (a := ((p : Nat))) (b := 1) rfl rfl (by omega) ?_)
                      refine xl_op (P := Try.prog) (some 9) rfl rfl (ox_assign (v := (.int .i64 ((p : Nat) + 1))) rfl ?_)
                      refine xl_nil ?_
                      have hsz0 := e6.size
                      have hsz1 := e7.size
                      have hsz2 := e8.size
                      have hsz3 := e9.size
                      have hsz4 := e10.size
                      have hsz5 := e11.size
                      have q7 := ((((o6_f2.ext e6).ext e7).ext e8).ext e9)
                      have hq6 := ((q7.ext e10).ext e11)
                      have hq3 := ((q6.ext e10).ext e11)
                      exact ⟨rfl, n + 1 - (p + 1), by omega, p + 1, X, Y, by omega, by omega, by rw [show ((p + 1 : Nat) : Int) = (p : Nat) + 1 by omega, ← hX']; omega, by rw [show ((p + 1 : Nat) : Int) = (p : Nat) + 1 by omega, ← hZ]; omega, g3_f2, g5_f2, g6_f2, (by first | exact rfl | exact (congrArg (Value.int .i64) (by omega))), (by first | exact rfl | exact (congrArg (Value.int .i64) (by omega))), (by first | exact rfl | exact (congrArg (Value.int .i64) (by omega))), hq6, hq3, (Ext.trans (Ext.trans (Ext.trans (Ext.trans (Ext.trans (Ext.trans e_f2 e6) e7) e8) e9) e10) e11)⟩
                    · skip
                      refine xc_skip ?_
                      refine xc_seq ?_
                      obtain ⟨bb, hbb⟩ := get_ex (l := B) (i := p) (by omega)
                      have hne := editL_get (b := B) (ins := x.bs) (a := a) (d := d) (p := p) (by omega) (by omega) (by omega)
                      rw [hbs, ← hX, hbb] at hne
                      have hXl := get_len hne
                      have q8 := ((((o6_f2.ext e6).ext e7).ext e8).ext e9)
                      obtain ⟨g6, cap6, heq6, _⟩ := (((q8.ext e10).ext e11)).some_of (by omega)
                      simp only [Value.slice.injEq, true_and] at heq6
                      obtain ⟨rfl, rfl⟩ := heq6
                      have hc6 : w12.cell? ⟨g6, X.toNat, none⟩ = some (.int .u8 (bb.toNat : Int)) := ((((q8.ext e10).ext e11)).cells (o := X.toNat) (vs := [.int .u8 (bb.toNat : Int)]) (by intro j v hj; cases j with | zero => (simp at hj; subst hj; simp [byC, hne]) | succ j => simp at hj)).1
                      obtain ⟨g, o, rfl⟩ := hRB.ex (by intro hh; have : (byC B).length = 0 := (by rw [hh]; rfl); rw [byC_len] at this; omega)
                      have hcb : w.cell? ⟨g, o + p, none⟩ = some (.int .u8 (bb.toNat : Int)) := cellsL_get hRB.cells (by simp [byC, hbb])
                      refine xc_region ?_
                      refine xl_op (P := Try.prog) (some 145) rfl rfl (ox_move (v := (.int .i64 ((p : Nat)))) g9_f2 ?_)
                      refine xl_op (P := Try.prog) (some 146) rfl rfl (ox_add64 (a := ((p : Nat))) (b := 1) rfl rfl (by omega) ?_)
                      refine xl_op (P := Try.prog) (some 147) rfl rfl (ox_loadN (vs := [(.int .i64 x.e.pl), (.int .i64 x.e.del), (.slice x.e.A x.e.n x.e.c)]) tA_59 tS_59 g3_f2 rfl ⟨((q6.ext e10).ext e11).cell rfl, ((q6.ext e10).ext e11).cell rfl, ((q6.ext e10).ext e11).cell rfl, trivial⟩ ?_)
                      refine xl_op (P := Try.prog) (some 148) rfl rfl (ox_mkSlice (ps := [(0, (.agg #[(.int .i64 x.e.pl), (.int .i64 x.e.del), (.slice x.e.A x.e.n x.e.c)]))]) (zs := #[(.int .i64 0), (.int .i64 0), (.slice none 0 0)]) (cs := #[(.int .i64 x.e.pl), (.int .i64 x.e.del), (.slice x.e.A x.e.n x.e.c)]) tE_43 rfl (by decide) (by kernel_rfl) (by kernel_rfl) ?_)
                      intro w13 e12 z6 b4
                      replace b4 : Blk w13 w12.heap.size #[(.int .i64 x.e.pl), (.int .i64 x.e.del), (.slice x.e.A x.e.n x.e.c)] 59 := b4
                      refine xl_op (P := Try.prog) (some 149) rfl rfl (ox_callE (al := [(.slice (some ⟨w12.heap.size, 0, none⟩) 1 1)]) pf_18 rfl (ret_mono (edits_calls [x] (some ⟨w12.heap.size, 0, none⟩) 1 w13 ⟨fun _ => rfl, by simpa [edC, Ed.cs] using b4.all⟩ (by simp) (by intro y hy; simp at hy; subst hy; exact hxn) (by intro y hy; simp at hy; subst hy; exact hxd.ext (Ext.trans (Ext.trans (Ext.trans (Ext.trans (Ext.trans (Ext.trans (Ext.trans e_f2 e6) e7) e8) e9) e10) e11) e12))) ?_))
                      rintro _ w14 ⟨gz7, cz7, ysz7, rfl, hcmz7, hOz7, hgz7, hCz7, e13⟩
                      have he13 := e13.size
                      have hylz7 : ysz7.length = 1 := hCz7.1.symm
                      have heqz7 : ysz7.map Ed.e3 = [((a : Int), (d : Int), (x.e.n : Int))] := by rw [hCz7.e3]; simp [Ed.e3, ha, hd]
                      refine xl_op (P := Try.prog) (some 150) rfl rfl (ox_callE (al := [(.int .i64 ((p : Nat) + 1)), (.int .i64 (-1)), (.slice (some ⟨gz7, 0, none⟩) 1 cz7)]) pf_19 rfl (ret_mono ((by have h := move_calls ((p : Nat) + 1) (-1) ysz7 (some ⟨gz7, 0, none⟩) cz7 w14 (Own.front (ms := [edM]) hOz7 hylz7); rw [hylz7, heqz7, move_one n (by omega) (by omega) had hk, ← hZ] at h; exact h)) ?_))
                      rintro _ w15 ⟨rfl, e14⟩
                      have he14 := e14.size
                      refine xl_op (P := Try.prog) (some 144) rfl rfl (ox_move (v := (.tuple #[(.int .i64 Z), (.int .i64 0)])) rfl ?_)
                      refine xl_op (P := Try.prog) (some 151) rfl rfl (ox_extract (vs := #[(.int .i64 Z), (.int .i64 0)]) (v := (.int .i64 Z)) rfl rfl ?_)
                      refine xl_op (P := Try.prog) (some 152) rfl rfl (ox_extract (vs := #[(.int .i64 Z), (.int .i64 0)]) (v := (.int .i64 0)) rfl rfl ?_)
                      refine xl_op (P := Try.prog) (some 14) rfl rfl (ox_assign (v := (.int .i64 Z)) rfl ?_)
                      refine xl_op (P := Try.prog) (some 15) rfl rfl (ox_assign (v := (.int .i64 0)) rfl ?_)
                      refine xl_nil ?_
                      refine xc_seq ?_
                      refine xc_regionE [] (fun W_ => Chg (fun _ => False) w15 W_) hmix ?_
                      intro w16 e15 z8
                      have hS1 : Chg (fun _ => False) w15 w16 := Ext.to e15
                      refine xd_pure 0 (some 153) rfl rfl (by kernel_rfl) (v := (.int .i64 0)) (.inl ⟨rfl, fun W_ hW_ => ox_move (v := (.int .i64 0)) rfl ⟨rfl, rfl⟩⟩) ?_
                      refine xd_pure 1 (some 154) rfl rfl (by kernel_rfl) (v := (.bool (decide ((0 : Int) ≠ 0)))) (.inl ⟨rfl, fun W_ hW_ => ox_neq (k := .i64) (a := 0) (b := 0) rfl rfl ⟨rfl, rfl⟩⟩) ?_
                      refine xd_pure 2 (some 155) rfl rfl (by kernel_rfl) (v := (.bool (decide ((0 : Int) ≠ 0)))) (.inl ⟨rfl, fun W_ hW_ => ox_move (v := (.bool (decide ((0 : Int) ≠ 0)))) rfl ⟨rfl, rfl⟩⟩) ?_
                      refine xd_pure 3 (some 156) rfl rfl (by kernel_rfl) (v := (.int .i64 Z)) (.inl ⟨(wanted_of (j := 2) (b := false) rfl (congrArg some (by decide : decide ((0 : Int) ≠ 0) = false))), fun W_ hW_ => ox_move (v := (.int .i64 Z)) rfl ⟨rfl, rfl⟩⟩) ?_
                      refine xd_pure 4 (some 157) rfl rfl (by kernel_rfl) (v := (.int .i64 X)) (.inl ⟨(wanted_of (j := 2) (b := false) rfl (congrArg some (by decide : decide ((0 : Int) ≠ 0) = false))), fun W_ hW_ => ox_move (v := (.int .i64 X)) rfl ⟨rfl, rfl⟩⟩) ?_
                      refine xd_pure 5 (some 158) rfl rfl (by kernel_rfl) (v := (.int .i64 (X + 1))) (.inl ⟨(wanted_of (j := 2) (b := false) rfl (congrArg some (by decide : decide ((0 : Int) ≠ 0) = false))), fun W_ hW_ => ox_add64 (a := X) (b := 1) rfl rfl (by omega) ⟨rfl, rfl⟩⟩) ?_
                      refine xd_pure 6 (some 159) rfl rfl (by kernel_rfl) (v := (.bool (decide ((Z : Int) ≠ (X + 1))))) (.inl ⟨(wanted_of (j := 2) (b := false) rfl (congrArg some (by decide : decide ((0 : Int) ≠ 0) = false))), fun W_ hW_ => ox_neq (k := .i64) (a := Z) (b := (X + 1)) rfl rfl ⟨rfl, rfl⟩⟩) ?_
                      refine xd_pure 7 (some 160) rfl rfl (by kernel_rfl) (v := (.bool (decide ((Z : Int) ≠ (X + 1))))) (.inl ⟨rfl, fun W_ hW_ => ox_pick_f (v := (.bool (decide ((Z : Int) ≠ (X + 1))))) (congrArg Value.bool (by decide : decide ((0 : Int) ≠ 0) = false)) rfl ⟨rfl, rfl⟩⟩) ?_
                      refine xd_pure 8 (some 161) rfl rfl (by kernel_rfl) (v := (.bool (decide ((Z : Int) ≠ (X + 1))))) (.inl ⟨rfl, fun W_ hW_ => ox_move (v := (.bool (decide ((Z : Int) ≠ (X + 1))))) rfl ⟨rfl, rfl⟩⟩) ?_
                      refine xd_pure 9 (some 162) rfl rfl (by kernel_rfl) (v := (.slice (some ⟨g6, 0, none⟩) (0 + a + x.e.n + (n - ((a + d)))) c3)) (.inl ⟨(wanted_of (j := 8) (b := false) rfl (congrArg some (decide_eq_false (by omega)))), fun W_ hW_ => ox_move (v := (.slice (some ⟨g6, 0, none⟩) (0 + a + x.e.n + (n - ((a + d)))) c3)) g6_f2 ⟨rfl, rfl⟩⟩) ?_
                      refine xd_pure 10 (some 163) rfl rfl (by kernel_rfl) (v := (.int .i64 X)) (.inl ⟨(wanted_of (j := 8) (b := false) rfl (congrArg some (decide_eq_false (by omega)))), fun W_ hW_ => ox_move (v := (.int .i64 X)) rfl ⟨rfl, rfl⟩⟩) ?_
                      refine xd_pure 11 (some 164) rfl rfl (by kernel_rfl) (v := (.pointer (some ⟨g6, 0 + (X : Int).toNat * 1, none⟩))) (.inl ⟨(wanted_of (j := 8) (b := false) rfl (congrArg some (decide_eq_false (by omega)))), fun W_ hW_ => ox_indexAddr (b := g6) (o := 0) (i := X) tE_57 rfl rfl (by omega) (by omega) ⟨rfl, rfl⟩⟩) ?_
                      have q9 := (Ext.cell (Ext.cell (Ext.cell hc6 e12) e13) e14)
                      refine xd_take 12 (some 165) rfl rfl (by kernel_rfl) (v := (.int .u8 ((bb.toNat : Int)))) (.inl ⟨(wanted_of (j := 8) (b := false) rfl (congrArg some (decide_eq_false (by omega)))), fun W_ hW_ => ox_load (v := (.int .u8 ((bb.toNat : Int)))) tA_5 rfl (by simpa using (Ext.cell q9 hW_)) ⟨rfl, rfl⟩⟩) hS1 ?_
                      refine xd_pure 13 (some 166) rfl rfl (by kernel_rfl) (v := (.slice (some ⟨g, o, none⟩) n c)) (.inl ⟨(wanted_of (j := 8) (b := false) rfl (congrArg some (decide_eq_false (by omega)))), fun W_ hW_ => ox_move (v := (.slice (some ⟨g, o, none⟩) n c)) g5_f2 ⟨rfl, rfl⟩⟩) ?_
                      refine xd_pure 14 (some 167) rfl rfl (by kernel_rfl) (v := (.int .i64 ((p : Nat)))) (.inl ⟨(wanted_of (j := 8) (b := false) rfl (congrArg some (decide_eq_false (by omega)))), fun W_ hW_ => ox_move (v := (.int .i64 ((p : Nat)))) g9_f2 ⟨rfl, rfl⟩⟩) ?_
                      refine xd_pure 15 (some 168) rfl rfl (by kernel_rfl) (v := (.pointer (some ⟨g, o + ((p : Nat) : Int).toNat * 1, none⟩))) (.inl ⟨(wanted_of (j := 8) (b := false) rfl (congrArg some (decide_eq_false (by omega)))), fun W_ hW_ => ox_indexAddr (b := g) (o := o) (i := ((p : Nat))) tE_57 rfl rfl (by omega) (by omega) ⟨rfl, rfl⟩⟩) ?_
                      refine xd_take 16 (some 169) rfl rfl (by kernel_rfl) (v := (.int .u8 ((bb.toNat : Int)))) (.inl ⟨(wanted_of (j := 8) (b := false) rfl (congrArg some (decide_eq_false (by omega)))), fun W_ hW_ => ox_load (v := (.int .u8 ((bb.toNat : Int)))) tA_5 rfl (by simpa using Ext.cell hcb (Ext.trans (Ext.trans (Ext.trans (Ext.trans (Ext.trans (Ext.trans (Ext.trans (Ext.trans (Ext.trans (Ext.trans e_f2 e6) e7) e8) e9) e10) e11) e12) e13) e14) hW_)) ⟨rfl, rfl⟩⟩) hS1 ?_
                      refine xd_pure 17 (some 170) rfl rfl (by kernel_rfl) (v := (.bool (decide (((bb.toNat : Int) : Int) ≠ ((bb.toNat : Int)))))) (.inl ⟨(wanted_of (j := 8) (b := false) rfl (congrArg some (decide_eq_false (by omega)))), fun W_ hW_ => ox_neq (k := .u8) (a := ((bb.toNat : Int))) (b := ((bb.toNat : Int))) rfl rfl ⟨rfl, rfl⟩⟩) ?_
                      refine xd_pure 18 (some 171) rfl rfl (by kernel_rfl) (v := (.bool (decide (((bb.toNat : Int) : Int) ≠ ((bb.toNat : Int)))))) (.inl ⟨rfl, fun W_ hW_ => ox_pick_f (v := (.bool (decide (((bb.toNat : Int) : Int) ≠ ((bb.toNat : Int)))))) (congrArg Value.bool (decide_eq_false (by omega))) rfl ⟨rfl, rfl⟩⟩) ?_
                      refine xd_done (by kernel_rfl) ?_ _
                      refine xc_cond_f (congrArg Value.bool (by simp : decide (((bb.toNat : Int) : Int) ≠ ((bb.toNat : Int))) = false)) ?_
                      refine xc_skip ?_
                      refine xc_region ?_
                      refine xl_op (P := Try.prog) (some 78) rfl rfl (ox_move (v := (.int .i64 ((p : Nat)))) g9_f2 ?_)
                      refine xl_op (P := Try.prog) (some 79) rfl rfl (ox_add64 (a := ((p : Nat))) (b := 1) rfl rfl (by omega) ?_)
                      refine xl_op (P := Try.prog) (some 9) rfl rfl (ox_assign (v := (.int .i64 ((p : Nat) + 1))) rfl ?_)
                      refine xl_nil ?_
                      have hsz0 := e6.size
                      have hsz1 := e7.size
                      have hsz2 := e8.size
                      have hsz3 := e9.size
                      have hsz4 := e10.size
                      have hsz5 := e11.size
                      have hsz6 := e12.size
                      have hsz7 := e13.size
                      have hsz8 := e14.size
                      have hsz9 := e15.size
                      have q10 := ((((q8.ext e10).ext e11).ext e12).ext e13)
                      have hq6 := ((q10.ext e14).ext e15)
                      have q11 := ((((q6.ext e10).ext e11).ext e12).ext e13)
                      have hq3 := ((q11.ext e14).ext e15)
                      exact ⟨rfl, n + 1 - (p + 1), by omega, p + 1, X, Y, by omega, by omega, by rw [show ((p + 1 : Nat) : Int) = (p : Nat) + 1 by omega, ← hX']; omega, by rw [show ((p + 1 : Nat) : Int) = (p : Nat) + 1 by omega, ← hZ]; omega, g3_f2, g5_f2, g6_f2, (by first | exact rfl | exact (congrArg (Value.int .i64) (by omega))), (by first | exact rfl | exact (congrArg (Value.int .i64) (by omega))), (by first | exact rfl | exact (congrArg (Value.int .i64) (by omega))), hq6, hq3, (Ext.trans (Ext.trans (Ext.trans (Ext.trans (Ext.trans (Ext.trans (Ext.trans (Ext.trans (Ext.trans (Ext.trans e_f2 e6) e7) e8) e9) e10) e11) e12) e13) e14) e15)⟩
                  · skip
                    refine xl_skip (some 135) (j := 9) (b := true) false rfl rfl (congrArg some (decide_eq_false h9)) (by decide) ?_
                    refine xl_skip (some 136) (j := 9) (b := true) false rfl rfl (congrArg some (decide_eq_false h9)) (by decide) ?_
                    refine xl_skip (some 137) (j := 9) (b := true) false rfl rfl (congrArg some (decide_eq_false h9)) (by decide) ?_
                    refine xl_skip (some 138) (j := 9) (b := true) false rfl rfl (congrArg some (decide_eq_false h9)) (by decide) ?_
                    refine xl_skip (some 139) (j := 9) (b := true) false rfl rfl (congrArg some (decide_eq_false h9)) (by decide) ?_
                    refine xl_skip (some 140) (j := 9) (b := true) false rfl rfl (congrArg some (decide_eq_false h9)) (by decide) ?_
                    refine xl_skip (some 141) (j := 9) (b := true) false rfl rfl (congrArg some (decide_eq_false h9)) (by decide) ?_
                    refine xl_opg (P := Try.prog) (some 142) (j := 4) (b := false) rfl rfl (congrArg some (decide_eq_false h8)) (ox_pick_f (v := (.bool false)) (congrArg Value.bool (decide_eq_false h9)) rfl ?_)
                    refine xl_op (P := Try.prog) (some 143) rfl rfl (ox_pick_f (v := (.bool false)) (congrArg Value.bool (decide_eq_false h8)) rfl ?_)
                    refine xl_nil ?_
                    refine xc_cond_f rfl ?_
                    refine xc_skip ?_
                    refine xc_seq ?_
                    obtain ⟨bb, hbb⟩ := get_ex (l := B) (i := p) (by omega)
                    have hne := editL_get (b := B) (ins := x.bs) (a := a) (d := d) (p := p) (by omega) (by omega) (by omega)
                    rw [hbs, ← hX, hbb] at hne
                    have hXl := get_len hne
                    have q12 := ((((o6_f2.ext e6).ext e7).ext e8).ext e9)
                    obtain ⟨g6, cap6, heq6, _⟩ := (((q12.ext e10).ext e11)).some_of (by omega)
                    simp only [Value.slice.injEq, true_and] at heq6
                    obtain ⟨rfl, rfl⟩ := heq6
                    have hc6 : w12.cell? ⟨g6, X.toNat, none⟩ = some (.int .u8 (bb.toNat : Int)) := ((((q12.ext e10).ext e11)).cells (o := X.toNat) (vs := [.int .u8 (bb.toNat : Int)]) (by intro j v hj; cases j with | zero => (simp at hj; subst hj; simp [byC, hne]) | succ j => simp at hj)).1
                    obtain ⟨g, o, rfl⟩ := hRB.ex (by intro hh; have : (byC B).length = 0 := (by rw [hh]; rfl); rw [byC_len] at this; omega)
                    have hcb : w.cell? ⟨g, o + p, none⟩ = some (.int .u8 (bb.toNat : Int)) := cellsL_get hRB.cells (by simp [byC, hbb])
                    refine xc_region ?_
                    refine xl_op (P := Try.prog) (some 145) rfl rfl (ox_move (v := (.int .i64 ((p : Nat)))) g9_f2 ?_)
                    refine xl_op (P := Try.prog) (some 146) rfl rfl (ox_add64 (a := ((p : Nat))) (b := 1) rfl rfl (by omega) ?_)
                    refine xl_op (P := Try.prog) (some 147) rfl rfl (ox_loadN (vs := [(.int .i64 x.e.pl), (.int .i64 x.e.del), (.slice x.e.A x.e.n x.e.c)]) tA_59 tS_59 g3_f2 rfl ⟨((q6.ext e10).ext e11).cell rfl, ((q6.ext e10).ext e11).cell rfl, ((q6.ext e10).ext e11).cell rfl, trivial⟩ ?_)
                    refine xl_op (P := Try.prog) (some 148) rfl rfl (ox_mkSlice (ps := [(0, (.agg #[(.int .i64 x.e.pl), (.int .i64 x.e.del), (.slice x.e.A x.e.n x.e.c)]))]) (zs := #[(.int .i64 0), (.int .i64 0), (.slice none 0 0)]) (cs := #[(.int .i64 x.e.pl), (.int .i64 x.e.del), (.slice x.e.A x.e.n x.e.c)]) tE_43 rfl (by decide) (by kernel_rfl) (by kernel_rfl) ?_)
                    intro w17 e16 z9 b5
                    replace b5 : Blk w17 w12.heap.size #[(.int .i64 x.e.pl), (.int .i64 x.e.del), (.slice x.e.A x.e.n x.e.c)] 59 := b5
                    refine xl_op (P := Try.prog) (some 149) rfl rfl (ox_callE (al := [(.slice (some ⟨w12.heap.size, 0, none⟩) 1 1)]) pf_18 rfl (ret_mono (edits_calls [x] (some ⟨w12.heap.size, 0, none⟩) 1 w17 ⟨fun _ => rfl, by simpa [edC, Ed.cs] using b5.all⟩ (by simp) (by intro y hy; simp at hy; subst hy; exact hxn) (by intro y hy; simp at hy; subst hy; exact hxd.ext (Ext.trans (Ext.trans (Ext.trans (Ext.trans (Ext.trans (Ext.trans (Ext.trans e_f2 e6) e7) e8) e9) e10) e11) e16))) ?_))
                    rintro _ w18 ⟨gz10, cz10, ysz10, rfl, hcmz10, hOz10, hgz10, hCz10, e17⟩
                    have he17 := e17.size
                    have hylz10 : ysz10.length = 1 := hCz10.1.symm
                    have heqz10 : ysz10.map Ed.e3 = [((a : Int), (d : Int), (x.e.n : Int))] := by rw [hCz10.e3]; simp [Ed.e3, ha, hd]
                    refine xl_op (P := Try.prog) (some 150) rfl rfl (ox_callE (al := [(.int .i64 ((p : Nat) + 1)), (.int .i64 (-1)), (.slice (some ⟨gz10, 0, none⟩) 1 cz10)]) pf_19 rfl (ret_mono ((by have h := move_calls ((p : Nat) + 1) (-1) ysz10 (some ⟨gz10, 0, none⟩) cz10 w18 (Own.front (ms := [edM]) hOz10 hylz10); rw [hylz10, heqz10, move_one n (by omega) (by omega) had hk, ← hZ] at h; exact h)) ?_))
                    rintro _ w19 ⟨rfl, e18⟩
                    have he18 := e18.size
                    refine xl_op (P := Try.prog) (some 144) rfl rfl (ox_move (v := (.tuple #[(.int .i64 Z), (.int .i64 0)])) rfl ?_)
                    refine xl_op (P := Try.prog) (some 151) rfl rfl (ox_extract (vs := #[(.int .i64 Z), (.int .i64 0)]) (v := (.int .i64 Z)) rfl rfl ?_)
                    refine xl_op (P := Try.prog) (some 152) rfl rfl (ox_extract (vs := #[(.int .i64 Z), (.int .i64 0)]) (v := (.int .i64 0)) rfl rfl ?_)
                    refine xl_op (P := Try.prog) (some 14) rfl rfl (ox_assign (v := (.int .i64 Z)) rfl ?_)
                    refine xl_op (P := Try.prog) (some 15) rfl rfl (ox_assign (v := (.int .i64 0)) rfl ?_)
                    refine xl_nil ?_
                    refine xc_seq ?_
                    refine xc_regionE [] (fun W_ => Chg (fun _ => False) w19 W_) hmix ?_
                    intro w20 e19 z11
                    have hS2 : Chg (fun _ => False) w19 w20 := Ext.to e19
                    refine xd_pure 0 (some 153) rfl rfl (by kernel_rfl) (v := (.int .i64 0)) (.inl ⟨rfl, fun W_ hW_ => ox_move (v := (.int .i64 0)) rfl ⟨rfl, rfl⟩⟩) ?_
                    refine xd_pure 1 (some 154) rfl rfl (by kernel_rfl) (v := (.bool (decide ((0 : Int) ≠ 0)))) (.inl ⟨rfl, fun W_ hW_ => ox_neq (k := .i64) (a := 0) (b := 0) rfl rfl ⟨rfl, rfl⟩⟩) ?_
                    refine xd_pure 2 (some 155) rfl rfl (by kernel_rfl) (v := (.bool (decide ((0 : Int) ≠ 0)))) (.inl ⟨rfl, fun W_ hW_ => ox_move (v := (.bool (decide ((0 : Int) ≠ 0)))) rfl ⟨rfl, rfl⟩⟩) ?_
                    refine xd_pure 3 (some 156) rfl rfl (by kernel_rfl) (v := (.int .i64 Z)) (.inl ⟨(wanted_of (j := 2) (b := false) rfl (congrArg some (by decide : decide ((0 : Int) ≠ 0) = false))), fun W_ hW_ => ox_move (v := (.int .i64 Z)) rfl ⟨rfl, rfl⟩⟩) ?_
                    refine xd_pure 4 (some 157) rfl rfl (by kernel_rfl) (v := (.int .i64 X)) (.inl ⟨(wanted_of (j := 2) (b := false) rfl (congrArg some (by decide : decide ((0 : Int) ≠ 0) = false))), fun W_ hW_ => ox_move (v := (.int .i64 X)) rfl ⟨rfl, rfl⟩⟩) ?_
                    refine xd_pure 5 (some 158) rfl rfl (by kernel_rfl) (v := (.int .i64 (X + 1))) (.inl ⟨(wanted_of (j := 2) (b := false) rfl (congrArg some (by decide : decide ((0 : Int) ≠ 0) = false))), fun W_ hW_ => ox_add64 (a := X) (b := 1) rfl rfl (by omega) ⟨rfl, rfl⟩⟩) ?_
                    refine xd_pure 6 (some 159) rfl rfl (by kernel_rfl) (v := (.bool (decide ((Z : Int) ≠ (X + 1))))) (.inl ⟨(wanted_of (j := 2) (b := false) rfl (congrArg some (by decide : decide ((0 : Int) ≠ 0) = false))), fun W_ hW_ => ox_neq (k := .i64) (a := Z) (b := (X + 1)) rfl rfl ⟨rfl, rfl⟩⟩) ?_
                    refine xd_pure 7 (some 160) rfl rfl (by kernel_rfl) (v := (.bool (decide ((Z : Int) ≠ (X + 1))))) (.inl ⟨rfl, fun W_ hW_ => ox_pick_f (v := (.bool (decide ((Z : Int) ≠ (X + 1))))) (congrArg Value.bool (by decide : decide ((0 : Int) ≠ 0) = false)) rfl ⟨rfl, rfl⟩⟩) ?_
                    refine xd_pure 8 (some 161) rfl rfl (by kernel_rfl) (v := (.bool (decide ((Z : Int) ≠ (X + 1))))) (.inl ⟨rfl, fun W_ hW_ => ox_move (v := (.bool (decide ((Z : Int) ≠ (X + 1))))) rfl ⟨rfl, rfl⟩⟩) ?_
                    refine xd_pure 9 (some 162) rfl rfl (by kernel_rfl) (v := (.slice (some ⟨g6, 0, none⟩) (0 + a + x.e.n + (n - ((a + d)))) c3)) (.inl ⟨(wanted_of (j := 8) (b := false) rfl (congrArg some (decide_eq_false (by omega)))), fun W_ hW_ => ox_move (v := (.slice (some ⟨g6, 0, none⟩) (0 + a + x.e.n + (n - ((a + d)))) c3)) g6_f2 ⟨rfl, rfl⟩⟩) ?_
                    refine xd_pure 10 (some 163) rfl rfl (by kernel_rfl) (v := (.int .i64 X)) (.inl ⟨(wanted_of (j := 8) (b := false) rfl (congrArg some (decide_eq_false (by omega)))), fun W_ hW_ => ox_move (v := (.int .i64 X)) rfl ⟨rfl, rfl⟩⟩) ?_
                    refine xd_pure 11 (some 164) rfl rfl (by kernel_rfl) (v := (.pointer (some ⟨g6, 0 + (X : Int).toNat * 1, none⟩))) (.inl ⟨(wanted_of (j := 8) (b := false) rfl (congrArg some (decide_eq_false (by omega)))), fun W_ hW_ => ox_indexAddr (b := g6) (o := 0) (i := X) tE_57 rfl rfl (by omega) (by omega) ⟨rfl, rfl⟩⟩) ?_
                    have q13 := (Ext.cell (Ext.cell (Ext.cell hc6 e16) e17) e18)
                    refine xd_take 12 (some 165) rfl rfl (by kernel_rfl) (v := (.int .u8 ((bb.toNat : Int)))) (.inl ⟨(wanted_of (j := 8) (b := false) rfl (congrArg some (decide_eq_false (by omega)))), fun W_ hW_ => ox_load (v := (.int .u8 ((bb.toNat : Int)))) tA_5 rfl (by simpa using (Ext.cell q13 hW_)) ⟨rfl, rfl⟩⟩) hS2 ?_
                    refine xd_pure 13 (some 166) rfl rfl (by kernel_rfl) (v := (.slice (some ⟨g, o, none⟩) n c)) (.inl ⟨(wanted_of (j := 8) (b := false) rfl (congrArg some (decide_eq_false (by omega)))), fun W_ hW_ => ox_move (v := (.slice (some ⟨g, o, none⟩) n c)) g5_f2 ⟨rfl, rfl⟩⟩) ?_
                    refine xd_pure 14 (some 167) rfl rfl (by kernel_rfl) (v := (.int .i64 ((p : Nat)))) (.inl ⟨(wanted_of (j := 8) (b := false) rfl (congrArg some (decide_eq_false (by omega)))), fun W_ hW_ => ox_move (v := (.int .i64 ((p : Nat)))) g9_f2 ⟨rfl, rfl⟩⟩) ?_
                    refine xd_pure 15 (some 168) rfl rfl (by kernel_rfl) (v := (.pointer (some ⟨g, o + ((p : Nat) : Int).toNat * 1, none⟩))) (.inl ⟨(wanted_of (j := 8) (b := false) rfl (congrArg some (decide_eq_false (by omega)))), fun W_ hW_ => ox_indexAddr (b := g) (o := o) (i := ((p : Nat))) tE_57 rfl rfl (by omega) (by omega) ⟨rfl, rfl⟩⟩) ?_
                    refine xd_take 16 (some 169) rfl rfl (by kernel_rfl) (v := (.int .u8 ((bb.toNat : Int)))) (.inl ⟨(wanted_of (j := 8) (b := false) rfl (congrArg some (decide_eq_false (by omega)))), fun W_ hW_ => ox_load (v := (.int .u8 ((bb.toNat : Int)))) tA_5 rfl (by simpa using Ext.cell hcb (Ext.trans (Ext.trans (Ext.trans (Ext.trans (Ext.trans (Ext.trans (Ext.trans (Ext.trans (Ext.trans (Ext.trans e_f2 e6) e7) e8) e9) e10) e11) e16) e17) e18) hW_)) ⟨rfl, rfl⟩⟩) hS2 ?_
                    refine xd_pure 17 (some 170) rfl rfl (by kernel_rfl) (v := (.bool (decide (((bb.toNat : Int) : Int) ≠ ((bb.toNat : Int)))))) (.inl ⟨(wanted_of (j := 8) (b := false) rfl (congrArg some (decide_eq_false (by omega)))), fun W_ hW_ => ox_neq (k := .u8) (a := ((bb.toNat : Int))) (b := ((bb.toNat : Int))) rfl rfl ⟨rfl, rfl⟩⟩) ?_
                    refine xd_pure 18 (some 171) rfl rfl (by kernel_rfl) (v := (.bool (decide (((bb.toNat : Int) : Int) ≠ ((bb.toNat : Int)))))) (.inl ⟨rfl, fun W_ hW_ => ox_pick_f (v := (.bool (decide (((bb.toNat : Int) : Int) ≠ ((bb.toNat : Int)))))) (congrArg Value.bool (decide_eq_false (by omega))) rfl ⟨rfl, rfl⟩⟩) ?_
                    refine xd_done (by kernel_rfl) ?_ _
                    refine xc_cond_f (congrArg Value.bool (by simp : decide (((bb.toNat : Int) : Int) ≠ ((bb.toNat : Int))) = false)) ?_
                    refine xc_skip ?_
                    refine xc_region ?_
                    refine xl_op (P := Try.prog) (some 78) rfl rfl (ox_move (v := (.int .i64 ((p : Nat)))) g9_f2 ?_)
                    refine xl_op (P := Try.prog) (some 79) rfl rfl (ox_add64 (a := ((p : Nat))) (b := 1) rfl rfl (by omega) ?_)
                    refine xl_op (P := Try.prog) (some 9) rfl rfl (ox_assign (v := (.int .i64 ((p : Nat) + 1))) rfl ?_)
                    refine xl_nil ?_
                    have hsz0 := e6.size
                    have hsz1 := e7.size
                    have hsz2 := e8.size
                    have hsz3 := e9.size
                    have hsz4 := e10.size
                    have hsz5 := e11.size
                    have hsz6 := e16.size
                    have hsz7 := e17.size
                    have hsz8 := e18.size
                    have hsz9 := e19.size
                    have q14 := ((((q12.ext e10).ext e11).ext e16).ext e17)
                    have hq6 := ((q14.ext e18).ext e19)
                    have q15 := ((((q6.ext e10).ext e11).ext e16).ext e17)
                    have hq3 := ((q15.ext e18).ext e19)
                    exact ⟨rfl, n + 1 - (p + 1), by omega, p + 1, X, Y, by omega, by omega, by rw [show ((p + 1 : Nat) : Int) = (p : Nat) + 1 by omega, ← hX']; omega, by rw [show ((p + 1 : Nat) : Int) = (p : Nat) + 1 by omega, ← hZ]; omega, g3_f2, g5_f2, g6_f2, (by first | exact rfl | exact (congrArg (Value.int .i64) (by omega))), (by first | exact rfl | exact (congrArg (Value.int .i64) (by omega))), (by first | exact rfl | exact (congrArg (Value.int .i64) (by omega))), hq6, hq3, (Ext.trans (Ext.trans (Ext.trans (Ext.trans (Ext.trans (Ext.trans (Ext.trans (Ext.trans (Ext.trans (Ext.trans e_f2 e6) e7) e8) e9) e10) e11) e16) e17) e18) e19)⟩
              · skip
                refine xc_exit ?_
                refine xc_seq ?_
                refine xc_region ?_
                refine xl_op (P := Try.prog) (some 4) rfl rfl (ox_assign (v := (.bool true)) rfl ?_)
                refine xl_nil ?_
                refine xc_ret ?_
                change leaves _ _ _ _ _ _ _
                refine leaves_nil (n := 172) (rs := [.tmp 4]) (vs := [(.bool true)]) rfl ⟨⟨by decide, rfl⟩, trivial⟩ ?_
                exact ⟨rfl, e_f2⟩

end Go.Proofs.Ythhbnodnpajljaa
