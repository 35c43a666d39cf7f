/-
  What the laws' grove makes of any parts. No conditions.
-/
import Derived.Test.YthhbnodnpajljaaVxi
import Derived.Test.YthhbnodnpajljaaRows
import Derived.Test.YthhbnodnpajljaaRga
import Derived.Test.YthhbnodnpajljaaFb
import Derived.Test.YthhbnodnpajljaaDr
import Derived.Test.YthhbnodnpajljaaDe
import Derived.Test.YthhbnodnpajljaaDs
set_option linter.unusedVariables false
set_option linter.unusedSimpArgs false
set_option maxRecDepth 100000
set_option maxHeartbeats 4000000
namespace Go.Proofs.Ythhbnodnpajljaa
open Go Go.RowKit Go.Vx


theorem pf_14 : plainF Try.prog 14 = true := by kernel_rfl
theorem pf_17 : plainF Try.prog 17 = true := by kernel_rfl
theorem pf_43 : plainF Try.prog 43 = true := by kernel_rfl
theorem pf_44 : plainF Try.prog 44 = true := by kernel_rfl
theorem tA_100 : isAggT Try.prog 100 = some true := by kernel_rfl
theorem tE_22 : sliceT Try.prog 22 = some (100, 7, 72, (.agg #[(.int .i64 0), (.int .i64 0), (.int .i64 0), (.int .i64 0), (.int .i64 0), (.int .i64 0), (.slice none 0 0)])) := by kernel_rfl
theorem tF_100_0 : fieldT Try.prog 100 0 = some 0 := by kernel_rfl
theorem tF_100_1 : fieldT Try.prog 100 1 = some 1 := by kernel_rfl
theorem tF_100_2 : fieldT Try.prog 100 2 = some 2 := by kernel_rfl
theorem tF_100_3 : fieldT Try.prog 100 3 = some 6 := by kernel_rfl
theorem tF_31_0 : fieldT Try.prog 31 0 = some 0 := by kernel_rfl
theorem tF_31_1 : fieldT Try.prog 31 1 = some 1 := by kernel_rfl
theorem tF_31_2 : fieldT Try.prog 31 2 = some 2 := by kernel_rfl
theorem tF_86_0 : fieldT Try.prog 86 0 = some 0 := by kernel_rfl
theorem tP_31 : placesT Try.prog 31 = some #[(0, 1), (1, 1), (2, 1)] := by kernel_rfl
theorem tS_100 : sizeT Try.prog 100 = some 7 := by kernel_rfl
theorem tS_28 : sizeT Try.prog 28 = some 1 := by kernel_rfl
theorem tU_22 : Try.prog.underlying 22 = some (.slice 100) := by kernel_rfl
theorem tZ_100 : zeroOf Try.prog 100 = some (.agg #[(.int .i64 0), (.int .i64 0), (.int .i64 0), (.int .i64 0), (.int .i64 0), (.int .i64 0), (.slice none 0 0)]) := by kernel_rfl
theorem tZ_31 : zeroOf Try.prog 31 = some (.agg #[(.pointer none), (.slice none 0 0), (.slice none 0 0)]) := by kernel_rfl

theorem grove_calls (l : List PB) (A : Option Addr) (c : Nat) (w : World) (hA : RowA w A (pbC l)) (hn : l.length ≤ 4611686018427387904) (hok : ∀ x ∈ l, x.ok w) :
    Calls Try.prog 13 #[(.slice A l.length c)] w (Ret (fun v w' => ∃ bg s ts us An Ap cn cp, v = .tuple #[.pointer (some ⟨bg, 0, none⟩), .bool true] ∧ GM w' bg s ts us An Ap cn cp ∧ w.heap.size ≤ bg ∧ w.heap.size ≤ s ∧ Ext w w')) := by
  refine calls_xc (n := 205) (f := fun s_ => [(.slice A l.length c)].getD s_ undef) Try.func13 rfl rfl (by simp) (fun s_ => by simp) ?_
  refine xc_seq ?_
  refine xc_region ?_
  refine xl_op (P := Try.prog) (some 2) rfl rfl (ox_assign (v := (.pointer none)) rfl ?_)
  refine xl_op (P := Try.prog) (some 3) rfl rfl (ox_assign (v := (.bool false)) rfl ?_)
  refine xl_nil ?_
  refine xc_seq ?_
  refine xc_region ?_
  refine xl_op (P := Try.prog) (some 18) rfl rfl (ox_callE (al := []) pf_41 rfl (ret_mono (new_calls w) ?_))
  rintro _ w1 ⟨rfl, hs0, hz0, e1⟩
  have he1 := e1.size
  refine xl_op (P := Try.prog) (some 19) rfl rfl (ox_mkStruct (ps := [(0, (.pointer (some ⟨w.heap.size, 0, none⟩)))]) (cs := #[(.pointer (some ⟨w.heap.size, 0, none⟩)), (.slice none 0 0), (.slice none 0 0)]) tZ_31 tP_31 rfl (by kernel_rfl) ?_)
  refine xl_op (P := Try.prog) (some 20) rfl rfl (ox_box (v := (.agg #[(.pointer (some ⟨w.heap.size, 0, none⟩)), (.slice none 0 0), (.slice none 0 0)])) rfl ?_)
  intro w2 e2 z1 b1
  replace b1 : Blk w2 w1.heap.size #[(.pointer (some ⟨w.heap.size, 0, none⟩)), (.slice none 0 0), (.slice none 0 0)] 31 := b1
  refine xl_op (P := Try.prog) (some 4) rfl rfl (ox_assign (v := (.pointer (some ⟨w1.heap.size, 0, none⟩))) rfl ?_)
  refine xl_nil ?_
  refine xc_seq ?_
  refine xc_seq ?_
  refine xc_region ?_
  refine xl_op (P := Try.prog) (some 21) rfl rfl (ox_move (v := (.pointer (some ⟨w1.heap.size, 0, none⟩))) rfl ?_)
  refine xl_op (P := Try.prog) (some 22) rfl rfl (ox_nilCheck (p := ⟨w1.heap.size, 0, none⟩) rfl ?_)
  refine xl_op (P := Try.prog) (some 23) rfl rfl (ox_fieldAddr (b := w1.heap.size) (o := 0) tF_31_0 rfl ?_)
  refine xl_op (P := Try.prog) (some 24) rfl rfl (ox_load (v := (.pointer (some ⟨w.heap.size, 0, none⟩))) tA_27 rfl (b1.cell rfl) ?_)
  refine xl_op (P := Try.prog) (some 25) rfl rfl (ox_eqlNil (p := (some ⟨w.heap.size, 0, none⟩ : Option Addr)) (q := none) tU_27 rfl rfl (.inr rfl) ?_)
  refine xl_op (P := Try.prog) (some 26) rfl rfl (ox_move (v := (.bool (decide ((some ⟨w.heap.size, 0, none⟩ : Option Addr) = none)))) rfl ?_)
  refine xl_opg (P := Try.prog) (some 27) (j := 5) (b := false) rfl rfl (congrArg some (decide_eq_false (by simp))) (ox_callE (al := []) pf_17 rfl (ret_mono (head_calls w2) ?_))
  rintro _ w3 ⟨rfl, e3⟩
  have he3 := e3.size
  refine xl_opg (P := Try.prog) (some 28) (j := 5) (b := false) rfl rfl (congrArg some (decide_eq_false (by simp))) (ox_not (b := true) rfl ?_)
  refine xl_op (P := Try.prog) (some 29) rfl rfl (ox_pick_f (v := (.bool false)) (congrArg Value.bool (decide_eq_false (by simp))) rfl ?_)
  refine xl_nil ?_
  refine xc_cond_f rfl ?_
  refine xc_skip ?_
  refine xc_seq ?_
  refine xc_seq ?_
  refine xc_region ?_
  refine xl_op (P := Try.prog) (some 5) rfl rfl (ox_assign (v := (.int .i64 0)) rfl ?_)
  refine xl_nil ?_
  refine xc_block ?_
  have hg0 := (b1.ext e3)
  have hlg0 := hg0.lt
  refine xc_loopN (fun m f W => ∃ (j : Nat) (ts : List T) (us : List T) (An : Option Addr) (Ap : Option Addr) (cn : Nat) (cp : Nat), m = l.length - j ∧ j ≤ l.length ∧ j ≤ 200 ∧ GOk ts us ∧ ts.length ≤ j ∧ f 0 = (.slice A l.length c) ∧ f 4 = (.pointer (some ⟨w1.heap.size, 0, none⟩)) ∧ f 5 = (.int .i64 ((j : Nat))) ∧ Blk W w1.heap.size #[(.pointer (some ⟨w.heap.size, 0, none⟩)), (.slice An ts.length cn), (.slice Ap us.length cp)] 31 ∧ Vx.Own W 36 1 (.slice An ts.length cn) ts.length (ts.map T.ptr) ∧ Vx.Own W 38 1 (.slice Ap us.length cp) us.length (us.map T.ptr) ∧ PNL (.pointer (some ⟨w.heap.size, 0, none⟩)) W ts ∧ PRL W us ∧ Blk W w.heap.size #[.int .i64 ((ts.length : Nat) : Int)] 140 ∧ (∀ b ∈ blocksL ts, ((.slice An ts.length cn) : Value).ownBlock ≠ some b) ∧ (∀ b ∈ blocksL us, ((.slice Ap us.length cp) : Value).ownBlock ≠ some b) ∧ (∀ k, ((.slice An ts.length cn) : Value).ownBlock = some k → w.heap.size ≤ k) ∧ (∀ k, ((.slice Ap us.length cp) : Value).ownBlock = some k → w.heap.size ≤ k) ∧ Ext w W) (l.length) ?_ ?_
  · exact ⟨0, [], [], none, none, 0, 0, by omega, by omega, by omega, GOk.nil, by simp, rfl, rfl, (by first | exact rfl | exact (congrArg (Value.int .i64) (by omega))), hg0, (Vx.Own.nil _ _ _), (Vx.Own.nil _ _ _), trivial, trivial, ((hs0.ext e2).ext e3), (by simp [blocksL]), (by simp [blocksL]), (by simp [Value.ownBlock]), (by simp [Value.ownBlock]), (Ext.trans (Ext.trans e1 e2) e3)⟩
  · rintro m f1 w4 ⟨j, ts, us, An, Ap, cn, cp, hm, hj, hj2, hG, htj, g0_f1, g4_f1, g5_f1, blk_w1.heap.size_f1, on_f1, op_f1, pn_f1, pr_f1, blk_w.heap.size_f1, nbn_f1, nbp_f1, lon_f1, lop_f1, e_f1⟩
    have hzE := e_f1.size
    have hul := hG.len
    refine xc_seq ?_
    refine xc_seq ?_
    refine xc_region ?_
    refine xl_op (P := Try.prog) (some 31) rfl rfl (ox_move (v := (.int .i64 ((j : Nat)))) g5_f1 ?_)
    refine xl_op (P := Try.prog) (some 32) rfl rfl (ox_move (v := (.slice A l.length c)) g0_f1 ?_)
    refine xl_op (P := Try.prog) (some 33) rfl rfl (ox_len (A := A) (n := l.length) (cp := c) rfl tU_22 rfl ?_)
    refine xl_op (P := Try.prog) (some 34) rfl rfl (ox_lss (k := .i64) (a := ((j : Nat))) (b := (((l.length : Nat) : Int))) rfl rfl ?_)
    refine xl_op (P := Try.prog) (some 35) rfl rfl (ox_move (v := (.bool (decide (((j : Nat) : Int) < (((l.length : Nat) : Int)))))) rfl ?_)
    refine xl_may (P := Try.prog) (some 36) (j := 4) (b := true) (((decide (((j : Nat) : Int) < (((l.length : Nat) : Int))))) = true) (.bool (decide (((j : Nat) : Int) < (((l.length : Nat) : Int))))) (.int .i64 ((j : Nat))) rfl rfl rfl (may_b ((decide (((j : Nat) : Int) < (((l.length : Nat) : Int))))) true) (fun hp => ox_move (v := (.int .i64 ((j : Nat)))) g5_f1 ⟨rfl, rfl⟩) ?_
    refine xl_may (P := Try.prog) (some 37) (j := 4) (b := true) (((decide (((j : Nat) : Int) < (((l.length : Nat) : Int))))) = true) (.bool (decide (((j : Nat) : Int) < (((l.length : Nat) : Int))))) (.bool (decide (((j : Nat) : Int) < 200))) rfl rfl rfl (may_b ((decide (((j : Nat) : Int) < (((l.length : Nat) : Int))))) true) (fun hp => ox_lss (k := .i64) (a := ((j : Nat))) (b := 200) (if_pos (α := Value) (t := (.int .i64 ((j : Nat)))) (e := undef) hp) rfl ⟨rfl, rfl⟩) ?_
    refine xl_op (P := Try.prog) (some 38) rfl rfl (ox_pick_and (a := ((decide (((j : Nat) : Int) < (((l.length : Nat) : Int)))))) (b := ((decide (((j : Nat) : Int) < 200)))) rfl (fun ha => (if_pos (α := Value) (t := (.bool (decide (((j : Nat) : Int) < 200)))) (e := undef) ha)) rfl ?_)
    refine xl_nil ?_
    refine xc_cond (b := (((decide (((j : Nat) : Int) < (((l.length : Nat) : Int))))) && ((decide (((j : Nat) : Int) < 200))))) rfl (fun h1 => ?_) (fun h1 => ?_)
    · skip
      have h1' := h1
      try simp only [Bool.or_eq_true, Bool.and_eq_true, decide_eq_true_eq, Bool.or_eq_false_iff, Bool.and_eq_false_iff, decide_eq_false_iff_not, Bool.not_eq_true', Bool.not_eq_false'] at h1'
      have hjl : j < l.length := by omega
      obtain ⟨x, hx⟩ := get_ex (l := l) (i := j) hjl
      obtain ⟨hxr, hxn8⟩ := hok x (List.mem_of_getElem? hx)
      obtain ⟨xk, xn, xl, xA, xc, xks⟩ := x
      simp only at hxr hxn8
      obtain ⟨g, o, rfl⟩ := hA.ex (by intro hh; cases l with | nil => simp at hx | cons q l => simp [pbC, PB.cs] at hh)
      have hcx : CellsL w g (o + j * 7) [(.int .i64 xk), (.int .i64 xn), (.int .i64 xl.kind), (.int .i64 xl.skip), (.int .i64 xl.len), (.int .i64 xl.reach), (.slice xA xks.length xc)] := cellsL_flat PB.cs 7 (fun _ => rfl) hA.cells hx
      refine xc_skip ?_
      refine xc_seq ?_
      refine xc_block ?_
      refine xc_seq ?_
      refine xc_region ?_
      refine xl_op (P := Try.prog) (some 41) rfl rfl (ox_move (v := (.slice (some ⟨g, o, none⟩) l.length c)) g0_f1 ?_)
      refine xl_op (P := Try.prog) (some 42) rfl rfl (ox_move (v := (.int .i64 ((j : Nat)))) g5_f1 ?_)
      refine xl_op (P := Try.prog) (some 43) rfl rfl (ox_indexAddr (b := g) (o := o) (i := ((j : Nat))) tE_22 rfl rfl (by omega) (by omega) ?_)
      refine xl_op (P := Try.prog) (some 44) rfl rfl (ox_loadN (vs := [(.int .i64 xk), (.int .i64 xn), (.int .i64 xl.kind), (.int .i64 xl.skip), (.int .i64 xl.len), (.int .i64 xl.reach), (.slice xA xks.length xc)]) tA_100 tS_100 rfl rfl (CellsL.keep e_f1 not_false hcx) ?_)
      refine xl_op (P := Try.prog) (some 6) rfl rfl (ox_alloc tZ_100 ?_)
      intro w5 e4 z2 b2
      replace b2 : Blk w5 w4.heap.size #[(.int .i64 0), (.int .i64 0), (.int .i64 0), (.int .i64 0), (.int .i64 0), (.int .i64 0), (.slice none 0 0)] 100 := b2
      refine xl_op (P := Try.prog) none rfl rfl (ox_store (n := 7) (vs := [(.int .i64 xk), (.int .i64 xn), (.int .i64 xl.kind), (.int .i64 xl.skip), (.int .i64 xl.len), (.int .i64 xl.reach), (.slice xA xks.length xc)]) tS_100 rfl (v := (.agg #[(.int .i64 xk), (.int .i64 xn), (.int .i64 xl.kind), (.int .i64 xl.skip), (.int .i64 xl.len), (.int .i64 xl.reach), (.slice xA xks.length xc)])) rfl rfl rfl rfl b2 (Nat.le_of_ble_eq_true rfl) ?_)
      intro w6 e5 z3 b3
      replace b3 : Blk w6 w4.heap.size #[(.int .i64 xk), (.int .i64 xn), (.int .i64 xl.kind), (.int .i64 xl.skip), (.int .i64 xl.len), (.int .i64 xl.reach), (.slice xA xks.length xc)] 100 := blk_full b3 rfl
      refine xl_nil ?_
      refine xc_seq ?_
      refine xc_seq ?_
      refine xc_region ?_
      refine xl_op (P := Try.prog) (some 45) rfl rfl (ox_fieldAddr (b := w4.heap.size) (o := 0) tF_100_0 rfl ?_)
      refine xl_op (P := Try.prog) (some 46) rfl rfl (ox_load (v := (.int .i64 xk)) tA_3 rfl (b3.cell rfl) ?_)
      refine xl_op (P := Try.prog) (some 47) rfl rfl (ox_eql (k := .i64) (a := xk) (b := 1) rfl rfl ?_)
      refine xl_nil ?_
      refine xc_if (p := (xk : Int) = 1) rfl (fun h2 => ?_) (fun h2 => ?_)
      · skip
        refine xc_seq ?_
        refine xc_regionE [6] (fun W_ => Chg (fun _ => False) w6 W_) hmix ?_
        intro w7 e6 z4
        have hS1 : Chg (fun _ => False) w6 w7 := Ext.to e6
        refine xd_pure 0 (some 48) rfl rfl (by kernel_rfl) (v := (.pointer (some ⟨w1.heap.size, 0, none⟩))) (.inl ⟨rfl, fun W_ hW_ => ox_move (v := (.pointer (some ⟨w1.heap.size, 0, none⟩))) g4_f1 ⟨rfl, rfl⟩⟩) ?_
        refine xd_pure 1 (some 49) rfl rfl (by kernel_rfl) (v := (.pointer (some ⟨w1.heap.size, 0, none⟩))) (.inl ⟨rfl, fun W_ hW_ => ox_nilCheck (p := ⟨w1.heap.size, 0, none⟩) rfl ⟨rfl, rfl⟩⟩) ?_
        refine xd_pure 2 (some 50) rfl rfl (by kernel_rfl) (v := (.pointer (some ⟨w1.heap.size, 0, none⟩))) (.inl ⟨rfl, fun W_ hW_ => ox_fieldAddr (b := w1.heap.size) (o := 0) tF_31_0 rfl ⟨rfl, rfl⟩⟩) ?_
        have q1 := ((blk_w1.heap.size_f1.ext e4).keep1 e5 ((blk_w1.heap.size_f1.ext e4).ne b2 (by decide)))
        refine xd_take 3 (some 51) rfl rfl (by kernel_rfl) (v := (.pointer (some ⟨w.heap.size, 0, none⟩))) (.inl ⟨rfl, fun W_ hW_ => ox_load (v := (.pointer (some ⟨w.heap.size, 0, none⟩))) tA_27 rfl ((q1.ext hW_).cell rfl) ⟨rfl, rfl⟩⟩) hS1 ?_
        refine xd_pure 4 (some 52) rfl rfl (by kernel_rfl) (v := (.pointer (some ⟨w4.heap.size, 2, none⟩))) (.inl ⟨rfl, fun W_ hW_ => ox_fieldAddr (b := w4.heap.size) (o := 0) tF_100_2 rfl ⟨rfl, rfl⟩⟩) ?_
        refine xd_take 5 (some 53) rfl rfl (by kernel_rfl) (v := (.agg #[(.int .i64 xl.kind), (.int .i64 xl.skip), (.int .i64 xl.len), (.int .i64 xl.reach)])) (.inl ⟨rfl, fun W_ hW_ => ox_loadN (vs := [(.int .i64 xl.kind), (.int .i64 xl.skip), (.int .i64 xl.len), (.int .i64 xl.reach)]) tA_84 tS_84 rfl rfl ⟨(b3.ext hW_).cell rfl, (b3.ext hW_).cell rfl, (b3.ext hW_).cell rfl, (b3.ext hW_).cell rfl, trivial⟩ ⟨rfl, rfl⟩⟩) hS1 ?_
        have q2 := ((blk_w.heap.size_f1.ext e4).keep1 e5 ((blk_w.heap.size_f1.ext e4).ne b2 (by decide)))
        have q3 := ((on_f1.ext e4).keep1 e5 (fun k hk => (on_f1.ext e4).ne_blk b2 (by decide) k hk))
        have hltn := ((q3.ext e6)).lt
        refine xd_one 6 (some 54) rfl rfl (by kernel_rfl) rfl (ox_callE (al := [(.pointer (some ⟨w.heap.size, 0, none⟩)), (.agg #[(.int .i64 xl.kind), (.int .i64 xl.skip), (.int .i64 xl.len), (.int .i64 xl.reach)])]) pf_42 rfl (ret_mono (storeLeaf_calls w.heap.size (((ts.length : Nat) : Int)) xl w7 (q2.ext e6) (by omega)) ?_))
        rintro _ w8 ⟨bn, hbn, rfl, hpx, hs1, e7⟩
        have he7 := e7.size
        replace hs1 : Blk w8 w.heap.size #[.int .i64 (((ts.length : Nat) : Int) + 1)] 140 := hs1
        have hxn : ∀ b ∈ blocks (leafT bn (((ts.length : Nat) : Int) + 1) xl), ((.slice An ts.length cn) : Value).ownBlock ≠ some b := fun b hb hh => by rw [blocks_leafT] at hb; simp at hb; subst hb; have := hltn _ hh; omega
        refine ⟨.inl (by decide), ?_⟩
        refine xd_pure 7 (some 7) rfl rfl (by kernel_rfl) (v := (.pointer (some ⟨bn, 0, none⟩))) (.inl ⟨rfl, fun W_ hW_ => ox_assign (v := (.pointer (some ⟨bn, 0, none⟩))) rfl ⟨rfl, rfl⟩⟩) ?_
        refine xd_done (by kernel_rfl) ?_ _
        refine xc_seq ?_
        refine xc_seq ?_
        refine xc_region ?_
        refine xl_op (P := Try.prog) (some 55) rfl rfl (ox_move (v := (.pointer (some ⟨bn, 0, none⟩))) rfl ?_)
        refine xl_op (P := Try.prog) (some 56) rfl rfl (ox_eqlNil (p := (some ⟨bn, 0, none⟩ : Option Addr)) (q := none) tU_36 rfl rfl (.inr rfl) ?_)
        refine xl_nil ?_
        refine xc_cond_f (congrArg Value.bool (decide_eq_false (by simp))) ?_
        refine xc_skip ?_
        refine xc_seq ?_
        refine xc_region ?_
        refine xl_op (P := Try.prog) (some 58) rfl rfl (ox_fieldAddr (b := w4.heap.size) (o := 0) tF_100_2 rfl ?_)
        have q4 := ((b3.ext e6).keep1 e7 ((b3.ext e6).ne (q2.ext e6) (by decide)))
        refine xl_op (P := Try.prog) (some 59) rfl rfl (ox_loadN (vs := [(.int .i64 xl.kind), (.int .i64 xl.skip), (.int .i64 xl.len), (.int .i64 xl.reach)]) tA_84 tS_84 rfl rfl ⟨q4.cell rfl, q4.cell rfl, q4.cell rfl, q4.cell rfl, trivial⟩ ?_)
        have q5 := (PRL.keep e5 (PRL.ext pr_f1 e4) (fun b hb hh => PRL.off b2 (by decide) (by decide) (PRL.ext pr_f1 e4) b hb hh))
        have q6 := (PRL.keep e7 (PRL.ext q5 e6) (fun b hb hh => PRL.off (q2.ext e6) (by decide) (by decide) (PRL.ext q5 e6) b hb hh))
        have hltu := PRL.lt q6
        have q7 := ((op_f1.ext e4).keep1 e5 (fun k hk => (op_f1.ext e4).ne_blk b2 (by decide) k hk))
        have q8 := ((q7.ext e6).keep1 e7 (fun k hk => (q7.ext e6).ne_blk (q2.ext e6) (by decide) k hk))
        have hlto := (q8).lt
        refine xl_op (P := Try.prog) (some 60) rfl rfl (ox_callE (al := [(.agg #[(.int .i64 xl.kind), (.int .i64 xl.skip), (.int .i64 xl.len), (.int .i64 xl.reach)])]) pf_43 rfl (ret_mono (one_calls xl w8) ?_))
        rintro _ w9 ⟨br, rfl, hbr, hbR, e8⟩
        have he8 := e8.size
        refine xl_op (P := Try.prog) (some 8) rfl rfl (ox_assign (v := (.pointer (some ⟨br, 0, none⟩))) rfl ?_)
        refine xl_nil ?_
        refine xc_seq ?_
        refine xc_region ?_
        refine xl_op (P := Try.prog) (some 61) rfl rfl (ox_move (v := (.pointer (some ⟨br, 0, none⟩))) rfl ?_)
        refine xl_op (P := Try.prog) (some 62) rfl rfl (ox_move (v := (.pointer (some ⟨bn, 0, none⟩))) rfl ?_)
        refine xl_op (P := Try.prog) (some 63) rfl rfl (ox_callE (al := [(.pointer (some ⟨bn, 0, none⟩))]) pf_40 rfl (ret_mono (number_calls (.pointer (some ⟨w.heap.size, 0, none⟩)) (leafT bn (((ts.length : Nat) : Int) + 1) xl) _ (PN.ext hpx e8)) ?_))
        rintro _ _ ⟨rfl, rfl⟩
        refine xl_op (P := Try.prog) (some 64) rfl rfl (ox_nilCheck (p := ⟨br, 0, none⟩) rfl ?_)
        refine xl_op (P := Try.prog) (some 65) rfl rfl (ox_fieldAddr (b := br) (o := 0) tF_86_0 rfl ?_)
        refine xl_op (P := Try.prog) none rfl rfl (ox_store (n := 1) (vs := [(.int .i64 (((ts.length : Nat) : Int) + 1))]) tS_3 rfl (v := (.int .i64 (((ts.length : Nat) : Int) + 1))) rfl rfl rfl rfl hbR (Nat.le_of_ble_eq_true rfl) ?_)
        intro w10 e9 z5 b4
        replace b4 : Blk w10 br #[(.int .i64 (((ts.length : Nat) : Int) + 1)), (.int .i64 1), (.int .i64 xl.kind), (.int .i64 1), (.int .i64 xl.kind), (.int .i64 xl.skip), (.int .i64 xl.len), (.int .i64 xl.reach), (.slice none 0 0)] 86 := b4
        refine xl_nil ?_
        refine xc_seq ?_
        refine xc_region ?_
        refine xl_op (P := Try.prog) (some 66) rfl rfl (ox_move (v := (.pointer (some ⟨w1.heap.size, 0, none⟩))) g4_f1 ?_)
        refine xl_op (P := Try.prog) (some 67) rfl rfl (ox_move (v := (.pointer (some ⟨w1.heap.size, 0, none⟩))) g4_f1 ?_)
        refine xl_op (P := Try.prog) (some 68) rfl rfl (ox_nilCheck (p := ⟨w1.heap.size, 0, none⟩) rfl ?_)
        refine xl_op (P := Try.prog) (some 69) rfl rfl (ox_fieldAddr (b := w1.heap.size) (o := 0) tF_31_1 rfl ?_)
        have q9 := ((blk_w1.heap.size_f1.ext e4).keep1 e5 ((blk_w1.heap.size_f1.ext e4).ne b2 (by decide)))
        have q10 := ((q9.ext e6).keep1 e7 ((q9.ext e6).ne (q2.ext e6) (by decide)))
        have q11 := ((q10.ext e8).keep1 e9 ((q10.ext e8).ne hbR (by decide)))
        refine xl_op (P := Try.prog) (some 70) rfl rfl (ox_load (v := (.slice An ts.length cn)) tA_28 rfl (q11.cell rfl) ?_)
        refine xl_op (P := Try.prog) (some 71) rfl rfl (ox_move (v := (.pointer (some ⟨bn, 0, none⟩))) rfl ?_)
        refine xl_op (P := Try.prog) (some 72) rfl rfl (ox_mkSlice (ps := [(0, (.pointer (some ⟨bn, 0, none⟩)))]) (zs := #[(.pointer none)]) (cs := #[(.pointer (some ⟨bn, 0, none⟩))]) tE_28 rfl (by decide) (by kernel_rfl) (by kernel_rfl) ?_)
        intro w11 e10 z6 b5
        replace b5 : Blk w11 w10.heap.size #[(.pointer (some ⟨bn, 0, none⟩))] 36 := b5
        have hpu := PR_leaf (b4.ext e10)
        have hun : ∀ b ∈ blocks (leafT br (((ts.length : Nat) : Int) + 1) xl), ((.slice Ap us.length cp) : Value).ownBlock ≠ some b := fun b hb hh => by rw [blocks_leafT] at hb; simp at hb; subst hb; have := hlto _ hh; omega
        have q12 := (PNL.keep e5 (PNL.ext pn_f1 e4) (fun b hb hh => PNL.off b2 (by decide) (by decide) (PNL.ext pn_f1 e4) b hb hh))
        have q13 := (PNL.keep e7 (PNL.ext q12 e6) (fun b hb hh => PNL.off (q2.ext e6) (by decide) (by decide) (PNL.ext q12 e6) b hb hh))
        have q14 := (PNL.keep e9 (PNL.ext q13 e8) (fun b hb hh => PNL.off hbR (by decide) (by decide) (PNL.ext q13 e8) b hb hh))
        have hlAon := PNL.lt (PNL.ext q14 e10)
        have q15 := (PN.keep e9 (PN.ext hpx e8) (fun b hb hh => PN.off hbR (by decide) (by decide) (PN.ext hpx e8) b hb hh))
        have hlXon := PN.lt (PN.ext q15 e10)
        have q16 := ((q3.ext e6).keep1 e7 (fun k hk => (q3.ext e6).ne_blk (q2.ext e6) (by decide) k hk))
        have q17 := ((q16.ext e8).keep1 e9 (fun k hk => (q16.ext e8).ne_blk hbR (by decide) k hk))
        refine xl_op (P := Try.prog) (some 73) rfl rfl (ox_append (n := ts.length) (g := w10.heap.size) (o := 0) (m := 1) (xs := ((ts.map T.ptr))) (news := ([(.pointer (some ⟨bn, 0, none⟩))])) rfl tE_28 rfl (by decide) (v := (.slice An ts.length cn)) rfl rfl (q17.ext e10) rfl b5.all rfl (by omega) (by omega) ?_)
        intro v1 w12 o1 e11 at1 nil1
        have he11 := e11.size
        obtain ⟨A1, c1, rfl, hc1⟩ := o1.shape
        have low1 : ∀ _k, (Value.slice A1 (ts.length + 1) c1).ownBlock = some _k → w.heap.size ≤ _k := fun _k _h => by rcases at1 with _e | _e <;> rw [_e] at _h; exact lon_f1 _k _h; exact (by cases _h; omega)
        have nb2on := nb_snoc at1 nbn_f1 hxn hlAon hlXon
        refine xl_op (P := Try.prog) (some 74) rfl rfl (ox_nilCheck (p := ⟨w1.heap.size, 0, none⟩) rfl ?_)
        refine xl_op (P := Try.prog) (some 75) rfl rfl (ox_fieldAddr (b := w1.heap.size) (o := 0) tF_31_1 rfl ?_)
        have q18 := ((q11.ext e10).keep e11 (fun _h => (q17.ext e10).ne_blk (q11.ext e10) (by decide) _ _h rfl))
        refine xl_op (P := Try.prog) none rfl rfl (ox_store (n := 1) (vs := [(.slice A1 (ts.length + 1) c1)]) tS_28 rfl (v := (.slice A1 (ts.length + 1) c1)) rfl rfl rfl rfl q18 (Nat.le_of_ble_eq_true rfl) ?_)
        intro w13 e12 z7 b6
        replace b6 : Blk w13 w1.heap.size #[(.pointer (some ⟨w.heap.size, 0, none⟩)), (.slice A1 (ts.length + 1) c1), (.slice Ap us.length cp)] 31 := b6
        refine xl_nil ?_
        refine xc_seq ?_
        refine xc_region ?_
        refine xl_op (P := Try.prog) (some 76) rfl rfl (ox_move (v := (.pointer (some ⟨w1.heap.size, 0, none⟩))) g4_f1 ?_)
        refine xl_op (P := Try.prog) (some 77) rfl rfl (ox_move (v := (.pointer (some ⟨w1.heap.size, 0, none⟩))) g4_f1 ?_)
        refine xl_op (P := Try.prog) (some 78) rfl rfl (ox_nilCheck (p := ⟨w1.heap.size, 0, none⟩) rfl ?_)
        refine xl_op (P := Try.prog) (some 79) rfl rfl (ox_fieldAddr (b := w1.heap.size) (o := 0) tF_31_2 rfl ?_)
        refine xl_op (P := Try.prog) (some 80) rfl rfl (ox_load (v := (.slice Ap us.length cp)) tA_29 rfl (b6.cell rfl) ?_)
        refine xl_op (P := Try.prog) (some 81) rfl rfl (ox_move (v := (.pointer (some ⟨br, 0, none⟩))) rfl ?_)
        refine xl_op (P := Try.prog) (some 82) rfl rfl (ox_mkSlice (ps := [(0, (.pointer (some ⟨br, 0, none⟩)))]) (zs := #[(.pointer none)]) (cs := #[(.pointer (some ⟨br, 0, none⟩))]) tE_29 rfl (by decide) (by kernel_rfl) (by kernel_rfl) ?_)
        intro w14 e13 z8 b7
        replace b7 : Blk w14 w13.heap.size #[(.pointer (some ⟨br, 0, none⟩))] 38 := b7
        have q19 := (PRL.keep e9 (PRL.ext q6 e8) (fun b hb hh => by have h1 := hltu b hb; have h2 : b = br := hh; omega))
        have q20 := (PRL.keep e11 (PRL.ext q19 e10) (fun b hb hh => PRL.offO (PRL.ext q19 e10) (q17.ext e10) (by decide) (by decide) b hb hh))
        have q21 := (PRL.keep e12 q20 (fun b hb hh => PRL.off q18 (by decide) (by decide) q20 b hb hh))
        have hlAop := PRL.lt (PRL.ext q21 e13)
        have q22 := (PR.keep e11 hpu (fun b hb hh => PRL.offO (PR.one hpu) (q17.ext e10) (by decide) (by decide) b (by simpa [blocksL] using hb) hh))
        have q23 := (PR.keep e12 q22 (fun b hb hh => PR.off q18 (by decide) (by decide) q22 b hb hh))
        have hlXop := PR.lt (PR.ext q23 e13)
        have q24 := ((q8.ext e8).keep1 e9 (fun k hk => (q8.ext e8).ne_blk hbR (by decide) k hk))
        have q25 := ((q24.ext e10).keep e11 (fun _k _hk => (q24.ext e10).ne_own (q17.ext e10) (by decide) _k _hk))
        have q26 := (q25.keep1 e12 (fun k hk => q25.ne_blk q18 (by decide) k hk))
        refine xl_op (P := Try.prog) (some 83) rfl rfl (ox_append (n := us.length) (g := w13.heap.size) (o := 0) (m := 1) (xs := ((us.map T.ptr))) (news := ([(.pointer (some ⟨br, 0, none⟩))])) rfl tE_29 rfl (by decide) (v := (.slice Ap us.length cp)) rfl rfl (q26.ext e13) rfl b7.all rfl (by omega) (by omega) ?_)
        intro v2 w15 o2 e14 at2 nil2
        have he14 := e14.size
        obtain ⟨A2, c2, rfl, hc2⟩ := o2.shape
        have low2 : ∀ _k, (Value.slice A2 (us.length + 1) c2).ownBlock = some _k → w.heap.size ≤ _k := fun _k _h => by rcases at2 with _e | _e <;> rw [_e] at _h; exact lop_f1 _k _h; exact (by cases _h; omega)
        have nb2op := nb_snoc at2 nbp_f1 hun hlAop hlXop
        refine xl_op (P := Try.prog) (some 84) rfl rfl (ox_nilCheck (p := ⟨w1.heap.size, 0, none⟩) rfl ?_)
        refine xl_op (P := Try.prog) (some 85) rfl rfl (ox_fieldAddr (b := w1.heap.size) (o := 0) tF_31_2 rfl ?_)
        have q27 := ((b6.ext e13).keep e14 (fun _h => (q26.ext e13).ne_blk (b6.ext e13) (by decide) _ _h rfl))
        refine xl_op (P := Try.prog) none rfl rfl (ox_store (n := 1) (vs := [(.slice A2 (us.length + 1) c2)]) tS_29 rfl (v := (.slice A2 (us.length + 1) c2)) rfl rfl rfl rfl q27 (Nat.le_of_ble_eq_true rfl) ?_)
        intro w16 e15 z9 b8
        replace b8 : Blk w16 w1.heap.size #[(.pointer (some ⟨w.heap.size, 0, none⟩)), (.slice A1 (ts.length + 1) c1), (.slice A2 (us.length + 1) c2)] 31 := b8
        refine xl_nil ?_
        refine xc_exit ?_
        refine xc_region ?_
        refine xl_op (P := Try.prog) (some 39) rfl rfl (ox_move (v := (.int .i64 ((j : Nat)))) g5_f1 ?_)
        refine xl_op (P := Try.prog) (some 40) rfl rfl (ox_add64 (a := ((j : Nat))) (b := 1) rfl rfl (by omega) ?_)
        refine xl_op (P := Try.prog) (some 5) rfl rfl (ox_assign (v := (.int .i64 ((j : Nat) + 1))) rfl ?_)
        refine xl_nil ?_
        have q28 := (o1.keep1 e12 (fun k hk => o1.ne_blk q18 (by decide) k hk))
        have q29 := ((q28.ext e13).keep e14 (fun _k _hk => (q28.ext e13).ne_own (q26.ext e13) (by decide) _k _hk))
        have q30 := (q29.keep1 e15 (fun k hk => q29.ne_blk q27 (by decide) k hk))
        have hq_on := q30
        have q31 := (o2.keep1 e15 (fun k hk => o2.ne_blk q27 (by decide) k hk))
        have hq_op := q31
        have q32 := (PNL.keep e11 (PNL.ext q14 e10) (fun b hb hh => nbn_f1 b hb hh))
        have q33 := (PNL.keep e12 q32 (fun b hb hh => PNL.off q18 (by decide) (by decide) q32 b hb hh))
        have q34 := (PNL.keep e14 (PNL.ext q33 e13) (fun b hb hh => PNL.offO (PNL.ext q33 e13) (q26.ext e13) (by decide) (by decide) b hb hh))
        have q35 := (PNL.keep e15 q34 (fun b hb hh => PNL.off q27 (by decide) (by decide) q34 b hb hh))
        have hq_pn := q35
        have q36 := (PRL.keep e14 (PRL.ext q21 e13) (fun b hb hh => nbp_f1 b hb hh))
        have q37 := (PRL.keep e15 q36 (fun b hb hh => PRL.off q27 (by decide) (by decide) q36 b hb hh))
        have hq_pr := q37
        have hq_g := b8
        have q38 := ((hs1.ext e8).keep1 e9 ((hs1.ext e8).ne hbR (by decide)))
        have q39 := ((q38.ext e10).keep e11 (fun _h => (q17.ext e10).ne_blk (q38.ext e10) (by decide) _ _h rfl))
        have q40 := ((q39.keep1 e12 (q39.ne q18 (by decide))).ext e13)
        have q41 := (q40.keep e14 (fun _h => (q26.ext e13).ne_blk q40 (by decide) _ _h rfl))
        have hq_s := (q41.keep1 e15 (q41.ne q27 (by decide)))
        have hsz0 := e4.size
        have hsz1 := e5.size
        have hsz2 := e6.size
        have hsz3 := e7.size
        have hsz4 := e8.size
        have hsz5 := e9.size
        have hsz6 := e10.size
        have hsz7 := e11.size
        have hsz8 := e12.size
        have hsz9 := e13.size
        have hsz10 := e14.size
        have hsz11 := e15.size
        have q42 := (PN.keep e11 (PN.ext q15 e10) (fun b hb hh => hxn b hb hh))
        have q43 := (PN.keep e12 q42 (fun b hb hh => PN.off q18 (by decide) (by decide) q42 b hb hh))
        have q44 := (PN.keep e14 (PN.ext q43 e13) (fun b hb hh => PNL.offO (PN.one (PN.ext q43 e13)) (q26.ext e13) (by decide) (by decide) b (by simpa [blocksL] using hb) hh))
        have q45 := (PN.keep e15 q44 (fun b hb hh => PN.off q27 (by decide) (by decide) q44 b hb hh))
        have hq_x := q45
        have q46 := (PR.keep e14 (PR.ext q23 e13) (fun b hb hh => hun b hb hh))
        have q47 := (PR.keep e15 q46 (fun b hb hh => PR.off q27 (by decide) (by decide) q46 b hb hh))
        have hq_u := q47
        have hl1 : (ts ++ [(leafT bn (((ts.length : Nat) : Int) + 1) xl)]).length = ts.length + 1 := by simp
        have hl2 : (us ++ [(leafT br (((ts.length : Nat) : Int) + 1) xl)]).length = us.length + 1 := by simp
        exact ⟨rfl, l.length - (j + 1), by omega, j + 1, (ts ++ [(leafT bn (((ts.length : Nat) : Int) + 1) xl)]), (us ++ [(leafT br (((ts.length : Nat) : Int) + 1) xl)]), A1, A2, c1, c2, by omega, by omega, by omega, hG.snoc (x := (leafT bn (((ts.length : Nat) : Int) + 1) xl)) (u := (leafT br (((ts.length : Nat) : Int) + 1) xl)) (by simp [leafT, skel, skelL]) (WF_leafT _ _ _) (by rw [sz_leafT]; omega) rfl (by simp [leafT, T.kids]) (by simp [leafT, T.kids]) (.inl rfl), by omega, g0_f1, g4_f1, (by first | exact rfl | exact (congrArg (Value.int .i64) (by omega))), (by rw [hl1, hl2]; exact hq_g), (by rw [hl1, List.map_append]; exact hq_on), (by rw [hl2, List.map_append]; exact hq_op), (PNL_snoc hq_pn hq_x), (PRL_snoc hq_pr hq_u), (by rw [hl1]; exact hq_s), (by rw [hl1]; exact nb2on), (by rw [hl2]; exact nb2op), (by rw [hl1]; exact low1), (by rw [hl2]; exact low2), (Ext.chg1 (Chg.trans (Ext.trans (Ext.chg1 (Chg.trans (Ext.trans (Ext.chg1 (Ext.trans (Ext.chg1 (Ext.trans (Ext.chg1 (Ext.trans e_f1 e4) e5 (by omega)) e6) e7 (by omega)) e8) e9 (by omega)) e10) e11 (fun b hb hl => absurd hl (by have := lon_f1 b hb; omega))) e12 (by omega)) e13) e14 (fun b hb hl => absurd hl (by have := lop_f1 b hb; omega))) e15 (by omega))⟩
      · skip
        have hk1 : xk ≠ 1 := h2
        refine xc_skip ?_
        refine xc_seq ?_
        refine xc_region ?_
        refine xl_op (P := Try.prog) (some 9) rfl rfl (ox_assign (v := (.slice none 0 0)) rfl ?_)
        refine xl_nil ?_
        refine xc_seq ?_
        refine xc_region ?_
        refine xl_op (P := Try.prog) (some 10) rfl rfl (ox_assign (v := (.slice none 0 0)) rfl ?_)
        refine xl_nil ?_
        refine xc_seq ?_
        refine xc_region ?_
        refine xl_op (P := Try.prog) (some 11) rfl rfl (ox_assign (v := (.int .i64 1)) rfl ?_)
        refine xl_nil ?_
        refine xc_seq ?_
        refine xc_seq ?_
        refine xc_region ?_
        refine xl_op (P := Try.prog) (some 12) rfl rfl (ox_assign (v := (.int .i64 0)) rfl ?_)
        refine xl_nil ?_
        refine xc_block ?_
        have q48 := ((on_f1.ext e4).keep1 e5 (fun k hk => (on_f1.ext e4).ne_blk b2 (by decide) k hk))
        have hr0 := q48
        have q49 := ((op_f1.ext e4).keep1 e5 (fun k hk => (op_f1.ext e4).ne_blk b2 (by decide) k hk))
        have hr1 := q49
        have q50 := (PNL.keep e5 (PNL.ext pn_f1 e4) (fun b hb hh => PNL.off b2 (by decide) (by decide) (PNL.ext pn_f1 e4) b hb hh))
        have hr2 := q50
        have q51 := (PRL.keep e5 (PRL.ext pr_f1 e4) (fun b hb hh => PRL.off b2 (by decide) (by decide) (PRL.ext pr_f1 e4) b hb hh))
        have hr3 := q51
        have q52 := ((blk_w1.heap.size_f1.ext e4).keep1 e5 ((blk_w1.heap.size_f1.ext e4).ne b2 (by decide)))
        have hr4 := q52
        have q53 := ((blk_w.heap.size_f1.ext e4).keep1 e5 ((blk_w.heap.size_f1.ext e4).ne b2 (by decide)))
        have hr5 := q53
        have hr6 := b3
        have hEr := (Ext.chg1 (Ext.trans e_f1 e4) e5 (by omega))
        have hzr := hEr.size
        have hl6 := hr6.lt
        refine xc_loopN (fun m f W => ∃ (k : Nat) (kt : List T) (ku : List T) (Ak : Option Addr) (Aq : Option Addr) (ck : Nat) (cq : Nat), m = xks.length - k ∧ k ≤ xks.length ∧ kt.length = k ∧ kt.map skel = ku.map skel ∧ (∀ t ∈ kt, t ∈ ts) ∧ (∀ u ∈ ku, u ∈ us) ∧ (0 ≤ szL ku ∧ szL ku ≤ 1500 * k) ∧ f 0 = (.slice (some ⟨g, o, none⟩) l.length c) ∧ f 4 = (.pointer (some ⟨w1.heap.size, 0, none⟩)) ∧ f 5 = (.int .i64 ((j : Nat))) ∧ f 6 = (.pointer (some ⟨w4.heap.size, 0, none⟩)) ∧ f 9 = (.slice Ak kt.length ck) ∧ f 10 = (.slice Aq ku.length cq) ∧ f 11 = (.int .i64 (1 + szL ku)) ∧ f 12 = (.int .i64 ((k : Nat))) ∧ Vx.Own W 36 1 (.slice Ak kt.length ck) kt.length (kt.map T.ptr) ∧ Vx.Own W 38 1 (.slice Aq ku.length cq) ku.length (ku.map T.ptr) ∧ (∀ k, ((.slice Ak kt.length ck) : Value).ownBlock = some k → w6.heap.size ≤ k) ∧ (∀ k, ((.slice Aq ku.length cq) : Value).ownBlock = some k → w6.heap.size ≤ k) ∧ Ext w6 W) (xks.length) ?_ ?_
        · exact ⟨0, [], [], none, none, 0, 0, by rfl, by omega, rfl, rfl, by simp, by simp, by simp [szL], g0_f1, g4_f1, g5_f1, rfl, rfl, rfl, (by first | exact rfl | exact (congrArg (Value.int .i64) (by omega))), (by first | exact rfl | exact (congrArg (Value.int .i64) (by omega))), (Vx.Own.nil _ _ _), (Vx.Own.nil _ _ _), (by simp [Value.ownBlock]), (by simp [Value.ownBlock]), (Chg.refl _ _)⟩
        · rintro m f2 w17 ⟨k, kt, ku, Ak, Aq, ck, cq, hm, hk, hkk, hks, hkt, hku, hku2, g0_f2, g4_f2, g5_f2, g6_f2, g9_f2, g10_f2, g11_f2, g12_f2, o9_f2, o10_f2, l9_f2, l10_f2, x_f2⟩
          have hzX := x_f2.size
          have hkl : ku.length = kt.length := by have := congrArg List.length hks; simpa using this.symm
          refine xc_seq ?_
          refine xc_seq ?_
          refine xc_region ?_
          refine xl_op (P := Try.prog) (some 86) rfl rfl (ox_move (v := (.int .i64 ((k : Nat)))) g12_f2 ?_)
          refine xl_op (P := Try.prog) (some 87) rfl rfl (ox_fieldAddr (b := w4.heap.size) (o := 0) tF_100_3 g6_f2 ?_)
          refine xl_op (P := Try.prog) (some 88) rfl rfl (ox_load (v := (.slice xA xks.length xc)) tA_42 rfl ((Blk.ext hr6 x_f2).cell rfl) ?_)
          refine xl_op (P := Try.prog) (some 89) rfl rfl (ox_len (A := xA) (n := xks.length) (cp := xc) rfl tU_42 rfl ?_)
          refine xl_op (P := Try.prog) (some 90) rfl rfl (ox_lss (k := .i64) (a := ((k : Nat))) (b := (((xks.length : Nat) : Int))) rfl rfl ?_)
          refine xl_op (P := Try.prog) (some 91) rfl rfl (ox_move (v := (.bool (decide (((k : Nat) : Int) < (((xks.length : Nat) : Int)))))) rfl ?_)
          refine xl_may (P := Try.prog) (some 92) (j := 5) (b := true) (((decide (((k : Nat) : Int) < (((xks.length : Nat) : Int))))) = true) (.bool (decide (((k : Nat) : Int) < (((xks.length : Nat) : Int))))) (.pointer (some ⟨w1.heap.size, 0, none⟩)) rfl rfl rfl (may_b ((decide (((k : Nat) : Int) < (((xks.length : Nat) : Int))))) true) (fun hp => ox_move (v := (.pointer (some ⟨w1.heap.size, 0, none⟩))) g4_f2 ⟨rfl, rfl⟩) ?_
          refine xl_may (P := Try.prog) (some 93) (j := 5) (b := true) (((decide (((k : Nat) : Int) < (((xks.length : Nat) : Int))))) = true) (.bool (decide (((k : Nat) : Int) < (((xks.length : Nat) : Int))))) (.pointer (some ⟨w1.heap.size, 0, none⟩)) rfl rfl rfl (may_b ((decide (((k : Nat) : Int) < (((xks.length : Nat) : Int))))) true) (fun hp => ox_nilCheck (p := ⟨w1.heap.size, 0, none⟩) (if_pos (α := Value) (t := (.pointer (some ⟨w1.heap.size, 0, none⟩))) (e := undef) hp) ⟨rfl, rfl⟩) ?_
          refine xl_may (P := Try.prog) (some 94) (j := 5) (b := true) (((decide (((k : Nat) : Int) < (((xks.length : Nat) : Int))))) = true) (.bool (decide (((k : Nat) : Int) < (((xks.length : Nat) : Int))))) (.pointer (some ⟨w1.heap.size, 1, none⟩)) rfl rfl rfl (may_b ((decide (((k : Nat) : Int) < (((xks.length : Nat) : Int))))) true) (fun hp => ox_fieldAddr (b := w1.heap.size) (o := 0) tF_31_1 (if_pos (α := Value) (t := (.pointer (some ⟨w1.heap.size, 0, none⟩))) (e := undef) hp) ⟨rfl, rfl⟩) ?_
          refine xl_may (P := Try.prog) (some 95) (j := 5) (b := true) (((decide (((k : Nat) : Int) < (((xks.length : Nat) : Int))))) = true) (.bool (decide (((k : Nat) : Int) < (((xks.length : Nat) : Int))))) (.slice An ts.length cn) rfl rfl rfl (may_b ((decide (((k : Nat) : Int) < (((xks.length : Nat) : Int))))) true) (fun hp => ox_load (v := (.slice An ts.length cn)) tA_28 (if_pos (α := Value) (t := (.pointer (some ⟨w1.heap.size, 1, none⟩))) (e := undef) hp) ((Blk.ext hr4 x_f2).cell rfl) ⟨rfl, rfl⟩) ?_
          refine xl_may (P := Try.prog) (some 96) (j := 5) (b := true) (((decide (((k : Nat) : Int) < (((xks.length : Nat) : Int))))) = true) (.bool (decide (((k : Nat) : Int) < (((xks.length : Nat) : Int))))) (.int .i64 (((ts.length : Nat) : Int))) rfl rfl rfl (may_b ((decide (((k : Nat) : Int) < (((xks.length : Nat) : Int))))) true) (fun hp => ox_len (A := An) (n := ts.length) (cp := cn) rfl tU_28 (if_pos (α := Value) (t := (.slice An ts.length cn)) (e := undef) hp) ⟨rfl, rfl⟩) ?_
          refine xl_may (P := Try.prog) (some 97) (j := 5) (b := true) (((decide (((k : Nat) : Int) < (((xks.length : Nat) : Int))))) = true) (.bool (decide (((k : Nat) : Int) < (((xks.length : Nat) : Int))))) (.bool (decide ((0 : Int) < (((ts.length : Nat) : Int))))) rfl rfl rfl (may_b ((decide (((k : Nat) : Int) < (((xks.length : Nat) : Int))))) true) (fun hp => ox_gtr (k := .i64) (a := (((ts.length : Nat) : Int))) (b := 0) (if_pos (α := Value) (t := (.int .i64 (((ts.length : Nat) : Int)))) (e := undef) hp) rfl ⟨rfl, rfl⟩) ?_
          refine xl_op (P := Try.prog) (some 98) rfl rfl (ox_pick_and (a := ((decide (((k : Nat) : Int) < (((xks.length : Nat) : Int)))))) (b := ((decide ((0 : Int) < (((ts.length : Nat) : Int)))))) rfl (fun ha => (if_pos (α := Value) (t := (.bool (decide ((0 : Int) < (((ts.length : Nat) : Int)))))) (e := undef) ha)) rfl ?_)
          refine xl_nil ?_
          refine xc_cond (b := (((decide (((k : Nat) : Int) < (((xks.length : Nat) : Int))))) && ((decide ((0 : Int) < (((ts.length : Nat) : Int))))))) rfl (fun h3 => ?_) (fun h3 => ?_)
          · skip
            have h3' := h3
            try simp only [Bool.or_eq_true, Bool.and_eq_true, decide_eq_true_eq, Bool.or_eq_false_iff, Bool.and_eq_false_iff, decide_eq_false_iff_not, Bool.not_eq_true', Bool.not_eq_false'] at h3'
            have hkl2 : k < xks.length := by omega
            obtain ⟨kx, hkx⟩ := get_ex (l := xks) (i := k) hkl2
            have htp : 0 < ts.length := by omega
            obtain ⟨q, hq⟩ : ∃ q : Nat, kx % ((ts.length : Nat) : Int) = (q : Nat) := ⟨(kx % ((ts.length : Nat) : Int)).toNat, by have := Int.emod_nonneg kx (show ((ts.length : Nat) : Int) ≠ 0 by omega); omega⟩
            have hqt : q < ts.length := by have := Int.emod_lt_of_pos kx (show (0 : Int) < ((ts.length : Nat) : Int) by omega); omega
            obtain ⟨gk, ok, rfl⟩ := hxr.ex (by intro hh; cases xks with | nil => simp at hkx | cons q l => simp at hh)
            have hck : w.cell? ⟨gk, ok + k, none⟩ = some (.int .i64 kx) := cellsL_get hxr.cells (by simp [hkx])
            obtain ⟨t, htq⟩ := get_ex hqt
            obtain ⟨u, huq⟩ := get_ex (l := us) (i := q) (by omega)
            have hsu := hG.sizeU u (List.mem_of_getElem? huq)
            have hsp := sz_pos u
            obtain ⟨gn, c9n, heqn, _⟩ := hr0.some_of (by omega)
            obtain ⟨gp, c9p, heqp, _⟩ := hr1.some_of (by omega)
            simp only [Value.slice.injEq, true_and] at heqn heqp
            obtain ⟨rfl, rfl⟩ := heqn
            obtain ⟨rfl, rfl⟩ := heqp
            have hcn : w6.cell? ⟨gn, q, none⟩ = some t.ptr := (hr0.cells (o := q) (vs := [t.ptr]) (by intro j v hj; cases j with | zero => (simp at hj; subst hj; simp [htq]) | succ j => simp at hj)).1
            have hcp9 : w6.cell? ⟨gp, q, none⟩ = some u.ptr := (hr1.cells (o := q) (vs := [u.ptr]) (by intro j v hj; cases j with | zero => (simp at hj; subst hj; simp [huq]) | succ j => simp at hj)).1
            refine xc_skip ?_
            refine xc_seq ?_
            refine xc_block ?_
            refine xc_seq ?_
            refine xc_regionE [] (fun W_ => Chg (fun _ => False) w17 W_) hmix ?_
            intro w18 e16 z10
            have hS2 : Chg (fun _ => False) w17 w18 := Ext.to e16
            refine xd_pure 0 (some 101) rfl rfl (by kernel_rfl) (v := (.pointer (some ⟨w4.heap.size, 6, none⟩))) (.inl ⟨rfl, fun W_ hW_ => ox_fieldAddr (b := w4.heap.size) (o := 0) tF_100_3 g6_f2 ⟨rfl, rfl⟩⟩) ?_
            refine xd_take 1 (some 102) rfl rfl (by kernel_rfl) (v := (.slice (some ⟨gk, ok, none⟩) xks.length xc)) (.inl ⟨rfl, fun W_ hW_ => ox_load (v := (.slice (some ⟨gk, ok, none⟩) xks.length xc)) tA_42 rfl (((Blk.ext hr6 x_f2).ext hW_).cell rfl) ⟨rfl, rfl⟩⟩) hS2 ?_
            refine xd_pure 2 (some 103) rfl rfl (by kernel_rfl) (v := (.int .i64 ((k : Nat)))) (.inl ⟨rfl, fun W_ hW_ => ox_move (v := (.int .i64 ((k : Nat)))) g12_f2 ⟨rfl, rfl⟩⟩) ?_
            refine xd_pure 3 (some 104) rfl rfl (by kernel_rfl) (v := (.pointer (some ⟨gk, ok + ((k : Nat) : Int).toNat * 1, none⟩))) (.inl ⟨rfl, fun W_ hW_ => ox_indexAddr (b := gk) (o := ok) (i := ((k : Nat))) tE_42 rfl rfl (by omega) (by omega) ⟨rfl, rfl⟩⟩) ?_
            refine xd_take 4 (some 105) rfl rfl (by kernel_rfl) (v := (.int .i64 kx)) (.inl ⟨rfl, fun W_ hW_ => ox_load (v := (.int .i64 kx)) tA_3 rfl (by simpa using Ext.cell hck (Ext.trans (Ext.trans hEr x_f2) hW_)) ⟨rfl, rfl⟩⟩) hS2 ?_
            refine xd_pure 5 (some 106) rfl rfl (by kernel_rfl) (v := (.pointer (some ⟨w1.heap.size, 0, none⟩))) (.inl ⟨rfl, fun W_ hW_ => ox_move (v := (.pointer (some ⟨w1.heap.size, 0, none⟩))) g4_f2 ⟨rfl, rfl⟩⟩) ?_
            refine xd_pure 6 (some 107) rfl rfl (by kernel_rfl) (v := (.pointer (some ⟨w1.heap.size, 0, none⟩))) (.inl ⟨rfl, fun W_ hW_ => ox_nilCheck (p := ⟨w1.heap.size, 0, none⟩) rfl ⟨rfl, rfl⟩⟩) ?_
            refine xd_pure 7 (some 108) rfl rfl (by kernel_rfl) (v := (.pointer (some ⟨w1.heap.size, 1, none⟩))) (.inl ⟨rfl, fun W_ hW_ => ox_fieldAddr (b := w1.heap.size) (o := 0) tF_31_1 rfl ⟨rfl, rfl⟩⟩) ?_
            refine xd_take 8 (some 109) rfl rfl (by kernel_rfl) (v := (.slice (some ⟨gn, 0, none⟩) ts.length cn)) (.inl ⟨rfl, fun W_ hW_ => ox_load (v := (.slice (some ⟨gn, 0, none⟩) ts.length cn)) tA_28 rfl (((Blk.ext hr4 x_f2).ext hW_).cell rfl) ⟨rfl, rfl⟩⟩) hS2 ?_
            refine xd_pure 9 (some 110) rfl rfl (by kernel_rfl) (v := (.int .i64 (((ts.length : Nat) : Int)))) (.inl ⟨rfl, fun W_ hW_ => ox_len (A := (some ⟨gn, 0, none⟩)) (n := ts.length) (cp := cn) rfl tU_28 rfl ⟨rfl, rfl⟩⟩) ?_
            refine xd_take 10 (some 111) rfl rfl (by kernel_rfl) (v := (.int .i64 ((q : Nat)))) (.inl ⟨rfl, fun W_ hW_ => ox_callE (al := [(.int .i64 kx), (.int .i64 (((ts.length : Nat) : Int)))]) pf_14 rfl (ret_mono ((by have h := within_calls kx (ts.length : Nat) W_ (by omega); rw [hq] at h; exact h)) (by rintro _ _ ⟨rfl, rfl⟩; exact ⟨rfl, rfl⟩))⟩) hS2 ?_
            refine xd_pure 11 (some 13) rfl rfl (by kernel_rfl) (v := (.int .i64 ((q : Nat)))) (.inl ⟨rfl, fun W_ hW_ => ox_assign (v := (.int .i64 ((q : Nat)))) rfl ⟨rfl, rfl⟩⟩) ?_
            refine xd_done (by kernel_rfl) ?_ _
            refine xc_seq ?_
            refine xc_region ?_
            refine xl_op (P := Try.prog) (some 112) rfl rfl (ox_move (v := (.slice Ak kt.length ck)) g9_f2 ?_)
            refine xl_op (P := Try.prog) (some 113) rfl rfl (ox_move (v := (.pointer (some ⟨w1.heap.size, 0, none⟩))) g4_f2 ?_)
            refine xl_op (P := Try.prog) (some 114) rfl rfl (ox_nilCheck (p := ⟨w1.heap.size, 0, none⟩) rfl ?_)
            refine xl_op (P := Try.prog) (some 115) rfl rfl (ox_fieldAddr (b := w1.heap.size) (o := 0) tF_31_1 rfl ?_)
            refine xl_op (P := Try.prog) (some 116) rfl rfl (ox_load (v := (.slice (some ⟨gn, 0, none⟩) ts.length cn)) tA_28 rfl (((Blk.ext hr4 x_f2).ext e16).cell rfl) ?_)
            refine xl_op (P := Try.prog) (some 117) rfl rfl (ox_move (v := (.int .i64 ((q : Nat)))) rfl ?_)
            refine xl_op (P := Try.prog) (some 118) rfl rfl (ox_indexAddr (b := gn) (o := 0) (i := ((q : Nat))) tE_28 rfl rfl (by omega) (by omega) ?_)
            refine xl_op (P := Try.prog) (some 119) rfl rfl (ox_load (v := (.pointer (some ⟨t.b, 0, none⟩))) tA_36 rfl (by simpa [T.ptr] using Ext.cell hcn (Ext.trans x_f2 e16)) ?_)
            refine xl_op (P := Try.prog) (some 120) rfl rfl (ox_mkSlice (ps := [(0, (.pointer (some ⟨t.b, 0, none⟩)))]) (zs := #[(.pointer none)]) (cs := #[(.pointer (some ⟨t.b, 0, none⟩))]) tE_28 rfl (by decide) (by kernel_rfl) (by kernel_rfl) ?_)
            intro w19 e17 z11 b9
            replace b9 : Blk w19 w18.heap.size #[(.pointer (some ⟨t.b, 0, none⟩))] 36 := b9
            refine xl_op (P := Try.prog) (some 121) rfl rfl (ox_append (n := kt.length) (g := w18.heap.size) (o := 0) (m := 1) (xs := ((kt.map T.ptr))) (news := ([(.pointer (some ⟨t.b, 0, none⟩))])) rfl tE_28 rfl (by decide) (v := (.slice Ak kt.length ck)) rfl rfl ((o9_f2.ext e16).ext e17) rfl b9.all rfl (by omega) (by omega) ?_)
            intro v3 w20 o3 e18 at3 nil3
            have he18 := e18.size
            obtain ⟨A3, c3, rfl, hc3⟩ := o3.shape
            have low3 : ∀ _k, (Value.slice A3 (kt.length + 1) c3).ownBlock = some _k → w6.heap.size ≤ _k := fun _k _h => by rcases at3 with _e | _e <;> rw [_e] at _h; exact l9_f2 _k _h; exact (by cases _h; omega)
            refine xl_op (P := Try.prog) (some 9) rfl rfl (ox_assign (v := (.slice A3 (kt.length + 1) c3)) rfl ?_)
            refine xl_nil ?_
            refine xc_seq ?_
            refine xc_region ?_
            refine xl_op (P := Try.prog) (some 122) rfl rfl (ox_move (v := (.slice Aq ku.length cq)) g10_f2 ?_)
            refine xl_op (P := Try.prog) (some 123) rfl rfl (ox_move (v := (.pointer (some ⟨w1.heap.size, 0, none⟩))) g4_f2 ?_)
            refine xl_op (P := Try.prog) (some 124) rfl rfl (ox_nilCheck (p := ⟨w1.heap.size, 0, none⟩) rfl ?_)
            refine xl_op (P := Try.prog) (some 125) rfl rfl (ox_fieldAddr (b := w1.heap.size) (o := 0) tF_31_2 rfl ?_)
            have q54 := ((((Blk.ext hr4 x_f2).ext e16).ext e17).keep e18 (fun _h => ((o9_f2.ext e16).ext e17).ne_blk (((Blk.ext hr4 x_f2).ext e16).ext e17) (by decide) _ _h rfl))
            refine xl_op (P := Try.prog) (some 126) rfl rfl (ox_load (v := (.slice (some ⟨gp, 0, none⟩) us.length cp)) tA_29 rfl (q54.cell rfl) ?_)
            refine xl_op (P := Try.prog) (some 127) rfl rfl (ox_move (v := (.int .i64 ((q : Nat)))) rfl ?_)
            refine xl_op (P := Try.prog) (some 128) rfl rfl (ox_indexAddr (b := gp) (o := 0) (i := ((q : Nat))) tE_29 rfl rfl (by omega) (by omega) ?_)
            refine xl_op (P := Try.prog) (some 129) rfl rfl (ox_load (v := (.pointer (some ⟨u.b, 0, none⟩))) tA_38 rfl (by simpa [T.ptr] using Ext.cell hcp9 (Chg.trans (Ext.trans (Ext.trans x_f2 e16) e17) e18 (fun b hb hl => absurd hl (by have := l9_f2 b hb; omega)))) ?_)
            refine xl_op (P := Try.prog) (some 130) rfl rfl (ox_mkSlice (ps := [(0, (.pointer (some ⟨u.b, 0, none⟩)))]) (zs := #[(.pointer none)]) (cs := #[(.pointer (some ⟨u.b, 0, none⟩))]) tE_29 rfl (by decide) (by kernel_rfl) (by kernel_rfl) ?_)
            intro w21 e19 z12 b10
            replace b10 : Blk w21 w20.heap.size #[(.pointer (some ⟨u.b, 0, none⟩))] 38 := b10
            have q55 := (((o10_f2.ext e16).ext e17).keep e18 (fun _k _hk => ((o10_f2.ext e16).ext e17).ne_own ((o9_f2.ext e16).ext e17) (by decide) _k _hk))
            refine xl_op (P := Try.prog) (some 131) rfl rfl (ox_append (n := ku.length) (g := w20.heap.size) (o := 0) (m := 1) (xs := ((ku.map T.ptr))) (news := ([(.pointer (some ⟨u.b, 0, none⟩))])) rfl tE_29 rfl (by decide) (v := (.slice Aq ku.length cq)) rfl rfl (q55.ext e19) rfl b10.all rfl (by omega) (by omega) ?_)
            intro v4 w22 o4 e20 at4 nil4
            have he20 := e20.size
            obtain ⟨A4, c4, rfl, hc4⟩ := o4.shape
            have low4 : ∀ _k, (Value.slice A4 (ku.length + 1) c4).ownBlock = some _k → w6.heap.size ≤ _k := fun _k _h => by rcases at4 with _e | _e <;> rw [_e] at _h; exact l10_f2 _k _h; exact (by cases _h; omega)
            refine xl_op (P := Try.prog) (some 10) rfl rfl (ox_assign (v := (.slice A4 (ku.length + 1) c4)) rfl ?_)
            refine xl_nil ?_
            refine xc_region ?_
            refine xl_op (P := Try.prog) (some 132) rfl rfl (ox_move (v := (.int .i64 (1 + szL ku))) g11_f2 ?_)
            refine xl_op (P := Try.prog) (some 133) rfl rfl (ox_move (v := (.pointer (some ⟨w1.heap.size, 0, none⟩))) g4_f2 ?_)
            refine xl_op (P := Try.prog) (some 134) rfl rfl (ox_nilCheck (p := ⟨w1.heap.size, 0, none⟩) rfl ?_)
            refine xl_op (P := Try.prog) (some 135) rfl rfl (ox_fieldAddr (b := w1.heap.size) (o := 0) tF_31_2 rfl ?_)
            have q56 := ((q54.ext e19).keep e20 (fun _h => (q55.ext e19).ne_blk (q54.ext e19) (by decide) _ _h rfl))
            refine xl_op (P := Try.prog) (some 136) rfl rfl (ox_load (v := (.slice (some ⟨gp, 0, none⟩) us.length cp)) tA_29 rfl (q56.cell rfl) ?_)
            refine xl_op (P := Try.prog) (some 137) rfl rfl (ox_move (v := (.int .i64 ((q : Nat)))) rfl ?_)
            refine xl_op (P := Try.prog) (some 138) rfl rfl (ox_indexAddr (b := gp) (o := 0) (i := ((q : Nat))) tE_29 rfl rfl (by omega) (by omega) ?_)
            refine xl_op (P := Try.prog) (some 139) rfl rfl (ox_load (v := (.pointer (some ⟨u.b, 0, none⟩))) tA_38 rfl (by simpa [T.ptr] using Ext.cell hcp9 (Chg.trans (Ext.trans (Chg.trans (Ext.trans (Ext.trans x_f2 e16) e17) e18 (fun b hb hl => absurd hl (by have := l9_f2 b hb; omega))) e19) e20 (fun b hb hl => absurd hl (by have := l10_f2 b hb; omega)))) ?_)
            refine xl_op (P := Try.prog) (some 140) rfl rfl (ox_nilCheck (p := ⟨u.b, 0, none⟩) rfl ?_)
            refine xl_op (P := Try.prog) (some 141) rfl rfl (ox_fieldAddr (b := u.b) (o := 0) tF_86_3 rfl ?_)
            have q57 := ((((hr3.get huq).blk.ext x_f2).ext e16).ext e17)
            have q58 := (q57.keep e18 (fun _h => ((o9_f2.ext e16).ext e17).ne_blk q57 (by decide) _ _h rfl))
            have q59 := ((q58.ext e19).keep e20 (fun _h => (q55.ext e19).ne_blk (q58.ext e19) (by decide) _ _h rfl))
            refine xl_op (P := Try.prog) (some 142) rfl rfl (ox_load (v := (.int .i64 (sz u))) tA_3 rfl (q59.cell rfl) ?_)
            refine xl_op (P := Try.prog) (some 143) rfl rfl (ox_add64 (a := (1 + szL ku)) (b := (sz u)) rfl rfl (by omega) ?_)
            refine xl_op (P := Try.prog) (some 11) rfl rfl (ox_assign (v := (.int .i64 (1 + szL ku + (sz u)))) rfl ?_)
            refine xl_nil ?_
            refine xc_region ?_
            refine xl_op (P := Try.prog) (some 99) rfl rfl (ox_move (v := (.int .i64 ((k : Nat)))) g12_f2 ?_)
            refine xl_op (P := Try.prog) (some 100) rfl rfl (ox_add64 (a := ((k : Nat))) (b := 1) rfl rfl (by omega) ?_)
            refine xl_op (P := Try.prog) (some 12) rfl rfl (ox_assign (v := (.int .i64 ((k : Nat) + 1))) rfl ?_)
            refine xl_nil ?_
            have q60 := ((o3.ext e19).keep e20 (fun _k _hk => (o3.ext e19).ne_own (q55.ext e19) (by decide) _k _hk))
            have hq_9 := q60
            have hq_10 := o4
            have hsz0 := e16.size
            have hsz1 := e17.size
            have hsz2 := e18.size
            have hsz3 := e19.size
            have hsz4 := e20.size
            have hl1 : (kt ++ [t]).length = kt.length + 1 := by simp
            have hl2 : (ku ++ [u]).length = ku.length + 1 := by simp
            have hs2 : szL (ku ++ [u]) = szL ku + sz u := by rw [szL_append]; simp [szL]
            exact ⟨rfl, xks.length - (k + 1), by omega, k + 1, (kt ++ [t]), (ku ++ [u]), A3, A4, c3, c4, by omega, by omega, by rw [hl1]; omega, by rw [List.map_append, List.map_append, hks]; simp [hG.at htq huq], fun y hy => by rcases List.mem_append.1 hy with h | h; exact hkt y h; simp at h; subst h; exact List.mem_of_getElem? htq, fun y hy => by rcases List.mem_append.1 hy with h | h; exact hku y h; simp at h; subst h; exact List.mem_of_getElem? huq, by rw [hs2]; have := hG.sizeU u (List.mem_of_getElem? huq); omega, g0_f2, g4_f2, g5_f2, g6_f2, (by rw [hl1]; rfl), (by rw [hl2]; rfl), (by first | exact rfl | exact (congrArg (Value.int .i64) (by omega))), (by first | exact rfl | exact (congrArg (Value.int .i64) (by omega))), (by rw [hl1, List.map_append]; exact hq_9), (by rw [hl2, List.map_append]; exact hq_10), (by rw [hl1]; exact low3), (by rw [hl2]; exact low4), (Chg.trans (Ext.trans (Chg.trans (Ext.trans (Ext.trans x_f2 e16) e17) e18 (fun b hb hl => absurd hl (by have := l9_f2 b hb; omega))) e19) e20 (fun b hb hl => absurd hl (by have := l10_f2 b hb; omega)))⟩
          · skip
            have h3' := h3
            try simp only [Bool.or_eq_true, Bool.and_eq_true, decide_eq_true_eq, Bool.or_eq_false_iff, Bool.and_eq_false_iff, decide_eq_false_iff_not, Bool.not_eq_true', Bool.not_eq_false'] at h3'
            refine xc_exit ?_
            refine xc_seq ?_
            refine xc_region ?_
            refine xl_op (P := Try.prog) (some 145) rfl rfl (ox_fieldAddr (b := w4.heap.size) (o := 0) tF_100_0 g6_f2 ?_)
            refine xl_op (P := Try.prog) (some 146) rfl rfl (ox_load (v := (.int .i64 xk)) tA_3 rfl ((Blk.ext hr6 x_f2).cell rfl) ?_)
            refine xl_op (P := Try.prog) (some 147) rfl rfl (ox_fieldAddr (b := w4.heap.size) (o := 0) tF_100_1 g6_f2 ?_)
            refine xl_op (P := Try.prog) (some 148) rfl rfl (ox_load (v := (.int .i64 xn)) tA_3 rfl ((Blk.ext hr6 x_f2).cell rfl) ?_)
            refine xl_op (P := Try.prog) (some 149) rfl rfl (ox_move (v := (.slice Aq ku.length cq)) g10_f2 ?_)
            have hltu := PRL.lt (PRL.ext hr3 x_f2)
            have hlto := ((Vx.Own.ext hr1 x_f2)).lt
            refine xl_op (P := Try.prog) (some 150) rfl rfl (ox_callE (al := [(.int .i64 xk), (.int .i64 xn), (.slice Aq ku.length cq)]) pf_44 rfl (ret_mono (made2_calls xk xn ku Aq cq w17 (PRL_of fun u hu => PRL_mem (PRL.ext hr3 x_f2) (hku u hu)) (Own.rowO o10_f2) (fun u hu => by have := hG.sizeU u (hku u hu); omega) (by omega)) ?_))
            rintro _ w23 ⟨o14, er, rfl, hm0, _, e21⟩
            have he21 := e21.size
            refine xl_op (P := Try.prog) (some 144) rfl rfl (ox_move (v := (.tuple #[(.pointer o14), (.int .i64 er)])) rfl ?_)
            refine xl_op (P := Try.prog) (some 151) rfl rfl (ox_extract (vs := #[(.pointer o14), (.int .i64 er)]) (v := (.pointer o14)) rfl rfl ?_)
            refine xl_op (P := Try.prog) (some 152) rfl rfl (ox_extract (vs := #[(.pointer o14), (.int .i64 er)]) (v := (.int .i64 er)) rfl rfl ?_)
            refine xl_op (P := Try.prog) (some 14) rfl rfl (ox_assign (v := (.pointer o14)) rfl ?_)
            refine xl_op (P := Try.prog) (some 15) rfl rfl (ox_assign (v := (.int .i64 er)) rfl ?_)
            refine xl_nil ?_
            refine xc_seq ?_
            refine xc_seq ?_
            refine xc_region ?_
            refine xl_op (P := Try.prog) (some 153) rfl rfl (ox_move (v := (.int .i64 (1 + szL ku))) g11_f2 ?_)
            refine xl_op (P := Try.prog) (some 154) rfl rfl (ox_gtr (k := .i64) (a := (1 + szL ku)) (b := 1500) rfl rfl ?_)
            refine xl_op (P := Try.prog) (some 155) rfl rfl (ox_move (v := (.bool (decide ((1500 : Int) < (1 + szL ku))))) rfl ?_)
            refine xl_may (P := Try.prog) (some 156) (j := 2) (b := false) (((decide ((1500 : Int) < (1 + szL ku)))) = false) (.bool (decide ((1500 : Int) < (1 + szL ku)))) (.int .i64 er) rfl rfl rfl (may_b ((decide ((1500 : Int) < (1 + szL ku)))) false) (fun hp => ox_move (v := (.int .i64 er)) rfl ⟨rfl, rfl⟩) ?_
            refine xl_may (P := Try.prog) (some 157) (j := 2) (b := false) (((decide ((1500 : Int) < (1 + szL ku)))) = false) (.bool (decide ((1500 : Int) < (1 + szL ku)))) (.bool (decide ((er : Int) ≠ 0))) rfl rfl rfl (may_b ((decide ((1500 : Int) < (1 + szL ku)))) false) (fun hp => ox_neq (k := .i64) (a := er) (b := 0) (if_pos (α := Value) (t := (.int .i64 er)) (e := undef) hp) rfl ⟨rfl, rfl⟩) ?_
            refine xl_op (P := Try.prog) (some 158) rfl rfl (ox_pick_or (a := ((decide ((1500 : Int) < (1 + szL ku))))) (b := ((decide ((er : Int) ≠ 0)))) rfl rfl (fun ha => (if_pos (α := Value) (t := (.bool (decide ((er : Int) ≠ 0)))) (e := undef) ha)) ?_)
            refine xl_nil ?_
            refine xc_cond (b := (((decide ((1500 : Int) < (1 + szL ku)))) || ((decide ((er : Int) ≠ 0))))) rfl (fun h4 => ?_) (fun h4 => ?_)
            · skip
              have h4' := h4
              try simp only [Bool.or_eq_true, Bool.and_eq_true, decide_eq_true_eq, Bool.or_eq_false_iff, Bool.and_eq_false_iff, decide_eq_false_iff_not, Bool.not_eq_true', Bool.not_eq_false'] at h4'
              clear hm0
              refine xc_exit ?_
              refine xc_region ?_
              refine xl_op (P := Try.prog) (some 39) rfl rfl (ox_move (v := (.int .i64 ((j : Nat)))) g5_f2 ?_)
              refine xl_op (P := Try.prog) (some 40) rfl rfl (ox_add64 (a := ((j : Nat))) (b := 1) rfl rfl (by omega) ?_)
              refine xl_op (P := Try.prog) (some 5) rfl rfl (ox_assign (v := (.int .i64 ((j : Nat) + 1))) rfl ?_)
              refine xl_nil ?_
              have hq_on := ((Vx.Own.ext hr0 x_f2).ext e21)
              have hq_op := ((Vx.Own.ext hr1 x_f2).ext e21)
              have hq_pn := (PNL.ext (PNL.ext hr2 x_f2) e21)
              have hq_pr := (PRL.ext (PRL.ext hr3 x_f2) e21)
              have hq_g := ((Blk.ext hr4 x_f2).ext e21)
              have hq_s := ((Blk.ext hr5 x_f2).ext e21)
              have hsz0 := e21.size
              exact ⟨rfl, l.length - (j + 1), by omega, j + 1, ts, us, An, Ap, cn, cp, by omega, by omega, by omega, hG, by omega, g0_f2, g4_f2, (by first | exact rfl | exact (congrArg (Value.int .i64) (by omega))), hq_g, hq_on, hq_op, hq_pn, hq_pr, hq_s, nbn_f1, nbp_f1, lon_f1, lop_f1, (Ext.trans (Ext.trans hEr x_f2) e21)⟩
            · skip
              have h4' := h4
              try simp only [Bool.or_eq_true, Bool.and_eq_true, decide_eq_true_eq, Bool.or_eq_false_iff, Bool.and_eq_false_iff, decide_eq_false_iff_not, Bool.not_eq_true', Bool.not_eq_false'] at h4'
              have her : er = 0 := by omega
              have hz5 : 1 + szL ku ≤ 1500 := by omega
              have hzk := skel_szL' hks
              obtain ⟨hnb, _, bm, kb, kcb, rfl, hbm, hkb, hbM, hcb, hrb⟩ := hm0 her
              refine xc_skip ?_
              refine xc_seq ?_
              refine xc_regionE [9] (fun W_ => Chg (fun _ => False) w23 W_) hmix ?_
              intro w24 e22 z13
              have hS3 : Chg (fun _ => False) w23 w24 := Ext.to e22
              refine xd_pure 0 (some 160) rfl rfl (by kernel_rfl) (v := (.pointer (some ⟨w1.heap.size, 0, none⟩))) (.inl ⟨rfl, fun W_ hW_ => ox_move (v := (.pointer (some ⟨w1.heap.size, 0, none⟩))) g4_f2 ⟨rfl, rfl⟩⟩) ?_
              refine xd_pure 1 (some 161) rfl rfl (by kernel_rfl) (v := (.pointer (some ⟨w1.heap.size, 0, none⟩))) (.inl ⟨rfl, fun W_ hW_ => ox_nilCheck (p := ⟨w1.heap.size, 0, none⟩) rfl ⟨rfl, rfl⟩⟩) ?_
              refine xd_pure 2 (some 162) rfl rfl (by kernel_rfl) (v := (.pointer (some ⟨w1.heap.size, 0, none⟩))) (.inl ⟨rfl, fun W_ hW_ => ox_fieldAddr (b := w1.heap.size) (o := 0) tF_31_0 rfl ⟨rfl, rfl⟩⟩) ?_
              refine xd_take 3 (some 163) rfl rfl (by kernel_rfl) (v := (.pointer (some ⟨w.heap.size, 0, none⟩))) (.inl ⟨rfl, fun W_ hW_ => ox_load (v := (.pointer (some ⟨w.heap.size, 0, none⟩))) tA_27 rfl ((((Blk.ext hr4 x_f2).ext e21).ext hW_).cell rfl) ⟨rfl, rfl⟩⟩) hS3 ?_
              refine xd_pure 4 (some 164) rfl rfl (by kernel_rfl) (v := (.pointer (some ⟨w4.heap.size, 0, none⟩))) (.inl ⟨rfl, fun W_ hW_ => ox_fieldAddr (b := w4.heap.size) (o := 0) tF_100_0 g6_f2 ⟨rfl, rfl⟩⟩) ?_
              refine xd_take 5 (some 165) rfl rfl (by kernel_rfl) (v := (.int .i64 xk)) (.inl ⟨rfl, fun W_ hW_ => ox_load (v := (.int .i64 xk)) tA_3 rfl ((((Blk.ext hr6 x_f2).ext e21).ext hW_).cell rfl) ⟨rfl, rfl⟩⟩) hS3 ?_
              refine xd_pure 6 (some 166) rfl rfl (by kernel_rfl) (v := (.pointer (some ⟨w4.heap.size, 1, none⟩))) (.inl ⟨rfl, fun W_ hW_ => ox_fieldAddr (b := w4.heap.size) (o := 0) tF_100_1 g6_f2 ⟨rfl, rfl⟩⟩) ?_
              refine xd_take 7 (some 167) rfl rfl (by kernel_rfl) (v := (.int .i64 xn)) (.inl ⟨rfl, fun W_ hW_ => ox_load (v := (.int .i64 xn)) tA_3 rfl ((((Blk.ext hr6 x_f2).ext e21).ext hW_).cell rfl) ⟨rfl, rfl⟩⟩) hS3 ?_
              refine xd_pure 8 (some 168) rfl rfl (by kernel_rfl) (v := (.slice Ak kt.length ck)) (.inl ⟨rfl, fun W_ hW_ => ox_move (v := (.slice Ak kt.length ck)) g9_f2 ⟨rfl, rfl⟩⟩) ?_
              have q61 := (((Vx.Own.ext hr0 x_f2).ext e21).ext e22)
              have hltn := (q61).lt
              have q62 := (PNL.ext (PNL.ext (PNL.ext hr2 x_f2) e21) e22)
              refine xd_one 9 (some 169) rfl rfl (by kernel_rfl) rfl (ox_callE (al := [(.pointer (some ⟨w.heap.size, 0, none⟩)), (.int .i64 xk), (.int .i64 xn), (.slice Ak kt.length ck)]) pf_45 rfl (ret_mono (make_good w.heap.size (((ts.length : Nat) : Int)) xk xn kt Ak ck w24 (((Blk.ext hr5 x_f2).ext e21).ext e22) (by omega) (PNL_of fun t ht => PNL_mem q62 (hkt t ht)) (Own.rowO ((o9_f2.ext e21).ext e22)) (Own.cap0 ((o9_f2.ext e21).ext e22)) (fun t ht => by have := hG.size t (hkt t ht); omega) (by have := szL_len kt; omega) hnb (by omega)) ?_))
              rintro _ w25 ⟨bn, ka, kcn, rfl, hbn, hkn, hpx, hs1, e23⟩
              have he23 := e23.size
              replace hs1 : Blk w25 w.heap.size #[.int .i64 (((ts.length : Nat) : Int) + 1)] 140 := hs1
              have hxn : ∀ b ∈ blocks (T.mk bn ka kcn (((ts.length : Nat) : Int) + 1) xk xn lf0 kt), ((.slice An ts.length cn) : Value).ownBlock ≠ some b := nb_new hbn hkn hltn hkt nbn_f1
              refine ⟨.inl (by decide), ?_⟩
              refine xd_pure 10 (some 159) rfl rfl (by kernel_rfl) (v := (.tuple #[(.pointer (some ⟨bn, 0, none⟩)), (.int .i64 0)])) (.inl ⟨rfl, fun W_ hW_ => ox_move (v := (.tuple #[(.pointer (some ⟨bn, 0, none⟩)), (.int .i64 0)])) rfl ⟨rfl, rfl⟩⟩) ?_
              refine xd_pure 11 (some 170) rfl rfl (by kernel_rfl) (v := (.pointer (some ⟨bn, 0, none⟩))) (.inl ⟨rfl, fun W_ hW_ => ox_extract (vs := #[(.pointer (some ⟨bn, 0, none⟩)), (.int .i64 0)]) (v := (.pointer (some ⟨bn, 0, none⟩))) rfl rfl ⟨rfl, rfl⟩⟩) ?_
              refine xd_pure 12 (some 171) rfl rfl (by kernel_rfl) (v := (.int .i64 0)) (.inl ⟨rfl, fun W_ hW_ => ox_extract (vs := #[(.pointer (some ⟨bn, 0, none⟩)), (.int .i64 0)]) (v := (.int .i64 0)) rfl rfl ⟨rfl, rfl⟩⟩) ?_
              refine xd_pure 13 (some 16) rfl rfl (by kernel_rfl) (v := (.pointer (some ⟨bn, 0, none⟩))) (.inl ⟨rfl, fun W_ hW_ => ox_assign (v := (.pointer (some ⟨bn, 0, none⟩))) rfl ⟨rfl, rfl⟩⟩) ?_
              refine xd_pure 14 (some 17) rfl rfl (by kernel_rfl) (v := (.int .i64 0)) (.inl ⟨rfl, fun W_ hW_ => ox_assign (v := (.int .i64 0)) rfl ⟨rfl, rfl⟩⟩) ?_
              refine xd_done (by kernel_rfl) ?_ _
              refine xc_seq ?_
              refine xc_seq ?_
              refine xc_region ?_
              refine xl_op (P := Try.prog) (some 172) rfl rfl (ox_move (v := (.pointer (some ⟨bn, 0, none⟩))) rfl ?_)
              refine xl_op (P := Try.prog) (some 173) rfl rfl (ox_eqlNil (p := (some ⟨bn, 0, none⟩ : Option Addr)) (q := none) tU_36 rfl rfl (.inr rfl) ?_)
              refine xl_op (P := Try.prog) (some 174) rfl rfl (ox_move (v := (.bool (decide ((some ⟨bn, 0, none⟩ : Option Addr) = none)))) rfl ?_)
              refine xl_opg (P := Try.prog) (some 175) (j := 2) (b := false) rfl rfl (congrArg some (decide_eq_false (by simp))) (ox_move (v := (.int .i64 0)) rfl ?_)
              refine xl_opg (P := Try.prog) (some 176) (j := 2) (b := false) rfl rfl (congrArg some (decide_eq_false (by simp))) (ox_neq (k := .i64) (a := 0) (b := 0) rfl rfl ?_)
              refine xl_op (P := Try.prog) (some 177) rfl rfl (ox_pick_f (v := (.bool (decide ((0 : Int) ≠ 0)))) (congrArg Value.bool (decide_eq_false (by simp))) rfl ?_)
              refine xl_nil ?_
              refine xc_cond_f (congrArg Value.bool (by decide : decide ((0 : Int) ≠ 0) = false)) ?_
              refine xc_skip ?_
              refine xc_seq ?_
              refine xc_region ?_
              refine xl_op (P := Try.prog) (some 179) rfl rfl (ox_move (v := (.pointer (some ⟨bm, 0, none⟩))) rfl ?_)
              refine xl_op (P := Try.prog) (some 180) rfl rfl (ox_move (v := (.pointer (some ⟨bn, 0, none⟩))) rfl ?_)
              refine xl_op (P := Try.prog) (some 181) rfl rfl (ox_callE (al := [(.pointer (some ⟨bn, 0, none⟩))]) pf_40 rfl (ret_mono (number_calls (.pointer (some ⟨w.heap.size, 0, none⟩)) (T.mk bn ka kcn (((ts.length : Nat) : Int) + 1) xk xn lf0 kt) _ hpx) ?_))
              rintro _ _ ⟨rfl, rfl⟩
              refine xl_op (P := Try.prog) (some 182) rfl rfl (ox_nilCheck (p := ⟨bm, 0, none⟩) rfl ?_)
              refine xl_op (P := Try.prog) (some 183) rfl rfl (ox_fieldAddr (b := bm) (o := 0) tF_86_0 rfl ?_)
              have q63 := ((hbM.ext e22).keep1 e23 ((hbM.ext e22).ne (((Blk.ext hr5 x_f2).ext e21).ext e22) (by decide)))
              refine xl_op (P := Try.prog) none rfl rfl (ox_store (n := 1) (vs := [(.int .i64 (((ts.length : Nat) : Int) + 1))]) tS_3 rfl (v := (.int .i64 (((ts.length : Nat) : Int) + 1))) rfl rfl rfl rfl q63 (Nat.le_of_ble_eq_true rfl) ?_)
              intro w26 e24 z14 b11
              replace b11 : Blk w26 bm #[(.int .i64 (((ts.length : Nat) : Int) + 1)), (.int .i64 xk), (.int .i64 xn), (.int .i64 (1 + szL ku)), (.int .i64 0), (.int .i64 0), (.int .i64 0), (.int .i64 0), (.slice ((kb.map fun k => ⟨k, 0, none⟩)) ku.length kcb)] 86 := b11
              refine xl_nil ?_
              refine xc_seq ?_
              refine xc_region ?_
              refine xl_op (P := Try.prog) (some 184) rfl rfl (ox_move (v := (.pointer (some ⟨w1.heap.size, 0, none⟩))) g4_f2 ?_)
              refine xl_op (P := Try.prog) (some 185) rfl rfl (ox_move (v := (.pointer (some ⟨w1.heap.size, 0, none⟩))) g4_f2 ?_)
              refine xl_op (P := Try.prog) (some 186) rfl rfl (ox_nilCheck (p := ⟨w1.heap.size, 0, none⟩) rfl ?_)
              refine xl_op (P := Try.prog) (some 187) rfl rfl (ox_fieldAddr (b := w1.heap.size) (o := 0) tF_31_1 rfl ?_)
              have q64 := ((((Blk.ext hr4 x_f2).ext e21).ext e22).keep1 e23 ((((Blk.ext hr4 x_f2).ext e21).ext e22).ne (((Blk.ext hr5 x_f2).ext e21).ext e22) (by decide)))
              refine xl_op (P := Try.prog) (some 188) rfl rfl (ox_load (v := (.slice An ts.length cn)) tA_28 rfl ((q64.keep1 e24 (q64.ne q63 (by decide))).cell rfl) ?_)
              refine xl_op (P := Try.prog) (some 189) rfl rfl (ox_move (v := (.pointer (some ⟨bn, 0, none⟩))) rfl ?_)
              refine xl_op (P := Try.prog) (some 190) rfl rfl (ox_mkSlice (ps := [(0, (.pointer (some ⟨bn, 0, none⟩)))]) (zs := #[(.pointer none)]) (cs := #[(.pointer (some ⟨bn, 0, none⟩))]) tE_28 rfl (by decide) (by kernel_rfl) (by kernel_rfl) ?_)
              intro w27 e25 z15 b12
              replace b12 : Blk w27 w26.heap.size #[(.pointer (some ⟨bn, 0, none⟩))] 36 := b12
              have q65 := (rowR.keep (rowR.ext hrb e22) e23 (fun x hx hh => rowR.off (rowR.ext hrb e22) (((Blk.ext hr5 x_f2).ext e21).ext e22) (by decide) x hx hh))
              have q66 := (rowR.keep q65 e24 (fun x hx hh => rowR.off q65 q63 (by decide) x hx hh))
              have q67 := (PRL.ext (PRL.ext (PRL.ext hr3 x_f2) e21) e22)
              have q68 := (PRL.keep e23 q67 (fun b hb hh => PRL.off (((Blk.ext hr5 x_f2).ext e21).ext e22) (by decide) (by decide) q67 b hb hh))
              have q69 := (PRL.keep e24 q68 (fun b hb hh => by have h1 := hltu b hb; have h2 : b = bm := hh; omega))
              have hpu : PR w27 (T.mk bm kb kcb (((ts.length : Nat) : Int) + 1) xk xn lf0 ku) := PR_mk (b11.ext e25) hcb (rowR.ext q66 e25) (PRL_of fun u hu => PRL_mem (PRL.ext q69 e25) (hku u hu))
              have hun : ∀ b ∈ blocks (T.mk bm kb kcb (((ts.length : Nat) : Int) + 1) xk xn lf0 ku), ((.slice Ap us.length cp) : Value).ownBlock ≠ some b := nb_new hbm hkb hlto hku nbp_f1
              have q70 := (PNL.keep e23 q62 (fun b hb hh => PNL.off (((Blk.ext hr5 x_f2).ext e21).ext e22) (by decide) (by decide) q62 b hb hh))
              have q71 := (PNL.keep e24 q70 (fun b hb hh => PNL.off q63 (by decide) (by decide) q70 b hb hh))
              have hlAon := PNL.lt (PNL.ext q71 e25)
              have q72 := (PN.keep e24 hpx (fun b hb hh => PN.off q63 (by decide) (by decide) hpx b hb hh))
              have hlXon := PN.lt (PN.ext q72 e25)
              have q73 := (q61.keep1 e23 (fun k hk => q61.ne_blk (((Blk.ext hr5 x_f2).ext e21).ext e22) (by decide) k hk))
              have q74 := (q73.keep1 e24 (fun k hk => q73.ne_blk q63 (by decide) k hk))
              refine xl_op (P := Try.prog) (some 191) rfl rfl (ox_append (n := ts.length) (g := w26.heap.size) (o := 0) (m := 1) (xs := ((ts.map T.ptr))) (news := ([(.pointer (some ⟨bn, 0, none⟩))])) rfl tE_28 rfl (by decide) (v := (.slice An ts.length cn)) rfl rfl (q74.ext e25) rfl b12.all rfl (by omega) (by omega) ?_)
              intro v5 w28 o5 e26 at5 nil5
              have he26 := e26.size
              obtain ⟨A5, c5, rfl, hc5⟩ := o5.shape
              have low5 : ∀ _k, (Value.slice A5 (ts.length + 1) c5).ownBlock = some _k → w.heap.size ≤ _k := fun _k _h => by rcases at5 with _e | _e <;> rw [_e] at _h; exact lon_f1 _k _h; exact (by cases _h; omega)
              have nb2on := nb_snoc at5 nbn_f1 hxn hlAon hlXon
              refine xl_op (P := Try.prog) (some 192) rfl rfl (ox_nilCheck (p := ⟨w1.heap.size, 0, none⟩) rfl ?_)
              refine xl_op (P := Try.prog) (some 193) rfl rfl (ox_fieldAddr (b := w1.heap.size) (o := 0) tF_31_1 rfl ?_)
              have q75 := ((q64.keep1 e24 (q64.ne q63 (by decide))).ext e25)
              have q76 := (q75.keep e26 (fun _h => (q74.ext e25).ne_blk q75 (by decide) _ _h rfl))
              refine xl_op (P := Try.prog) none rfl rfl (ox_store (n := 1) (vs := [(.slice A5 (ts.length + 1) c5)]) tS_28 rfl (v := (.slice A5 (ts.length + 1) c5)) rfl rfl rfl rfl q76 (Nat.le_of_ble_eq_true rfl) ?_)
              intro w29 e27 z16 b13
              replace b13 : Blk w29 w1.heap.size #[(.pointer (some ⟨w.heap.size, 0, none⟩)), (.slice A5 (ts.length + 1) c5), (.slice Ap us.length cp)] 31 := b13
              refine xl_nil ?_
              refine xc_region ?_
              refine xl_op (P := Try.prog) (some 194) rfl rfl (ox_move (v := (.pointer (some ⟨w1.heap.size, 0, none⟩))) g4_f2 ?_)
              refine xl_op (P := Try.prog) (some 195) rfl rfl (ox_move (v := (.pointer (some ⟨w1.heap.size, 0, none⟩))) g4_f2 ?_)
              refine xl_op (P := Try.prog) (some 196) rfl rfl (ox_nilCheck (p := ⟨w1.heap.size, 0, none⟩) rfl ?_)
              refine xl_op (P := Try.prog) (some 197) rfl rfl (ox_fieldAddr (b := w1.heap.size) (o := 0) tF_31_2 rfl ?_)
              refine xl_op (P := Try.prog) (some 198) rfl rfl (ox_load (v := (.slice Ap us.length cp)) tA_29 rfl (b13.cell rfl) ?_)
              refine xl_op (P := Try.prog) (some 199) rfl rfl (ox_move (v := (.pointer (some ⟨bm, 0, none⟩))) rfl ?_)
              refine xl_op (P := Try.prog) (some 200) rfl rfl (ox_mkSlice (ps := [(0, (.pointer (some ⟨bm, 0, none⟩)))]) (zs := #[(.pointer none)]) (cs := #[(.pointer (some ⟨bm, 0, none⟩))]) tE_29 rfl (by decide) (by kernel_rfl) (by kernel_rfl) ?_)
              intro w30 e28 z17 b14
              replace b14 : Blk w30 w29.heap.size #[(.pointer (some ⟨bm, 0, none⟩))] 38 := b14
              have q77 := (PRL.keep e26 (PRL.ext q69 e25) (fun b hb hh => PRL.offO (PRL.ext q69 e25) (q74.ext e25) (by decide) (by decide) b hb hh))
              have q78 := (PRL.keep e27 q77 (fun b hb hh => PRL.off q76 (by decide) (by decide) q77 b hb hh))
              have hlAop := PRL.lt (PRL.ext q78 e28)
              have q79 := (PR.keep e26 hpu (fun b hb hh => PRL.offO (PR.one hpu) (q74.ext e25) (by decide) (by decide) b (by simpa [blocksL] using hb) hh))
              have q80 := (PR.keep e27 q79 (fun b hb hh => PR.off q76 (by decide) (by decide) q79 b hb hh))
              have hlXop := PR.lt (PR.ext q80 e28)
              have q81 := (((Vx.Own.ext hr1 x_f2).ext e21).ext e22)
              have q82 := (q81.keep1 e23 (fun k hk => q81.ne_blk (((Blk.ext hr5 x_f2).ext e21).ext e22) (by decide) k hk))
              have q83 := (q82.keep1 e24 (fun k hk => q82.ne_blk q63 (by decide) k hk))
              have q84 := ((q83.ext e25).keep e26 (fun _k _hk => (q83.ext e25).ne_own (q74.ext e25) (by decide) _k _hk))
              have q85 := (q84.keep1 e27 (fun k hk => q84.ne_blk q76 (by decide) k hk))
              refine xl_op (P := Try.prog) (some 201) rfl rfl (ox_append (n := us.length) (g := w29.heap.size) (o := 0) (m := 1) (xs := ((us.map T.ptr))) (news := ([(.pointer (some ⟨bm, 0, none⟩))])) rfl tE_29 rfl (by decide) (v := (.slice Ap us.length cp)) rfl rfl (q85.ext e28) rfl b14.all rfl (by omega) (by omega) ?_)
              intro v6 w31 o6 e29 at6 nil6
              have he29 := e29.size
              obtain ⟨A6, c6, rfl, hc6⟩ := o6.shape
              have low6 : ∀ _k, (Value.slice A6 (us.length + 1) c6).ownBlock = some _k → w.heap.size ≤ _k := fun _k _h => by rcases at6 with _e | _e <;> rw [_e] at _h; exact lop_f1 _k _h; exact (by cases _h; omega)
              have nb2op := nb_snoc at6 nbp_f1 hun hlAop hlXop
              refine xl_op (P := Try.prog) (some 202) rfl rfl (ox_nilCheck (p := ⟨w1.heap.size, 0, none⟩) rfl ?_)
              refine xl_op (P := Try.prog) (some 203) rfl rfl (ox_fieldAddr (b := w1.heap.size) (o := 0) tF_31_2 rfl ?_)
              have q86 := ((b13.ext e28).keep e29 (fun _h => (q85.ext e28).ne_blk (b13.ext e28) (by decide) _ _h rfl))
              refine xl_op (P := Try.prog) none rfl rfl (ox_store (n := 1) (vs := [(.slice A6 (us.length + 1) c6)]) tS_29 rfl (v := (.slice A6 (us.length + 1) c6)) rfl rfl rfl rfl q86 (Nat.le_of_ble_eq_true rfl) ?_)
              intro w32 e30 z18 b15
              replace b15 : Blk w32 w1.heap.size #[(.pointer (some ⟨w.heap.size, 0, none⟩)), (.slice A5 (ts.length + 1) c5), (.slice A6 (us.length + 1) c6)] 31 := b15
              refine xl_nil ?_
              refine xc_region ?_
              refine xl_op (P := Try.prog) (some 39) rfl rfl (ox_move (v := (.int .i64 ((j : Nat)))) g5_f2 ?_)
              refine xl_op (P := Try.prog) (some 40) rfl rfl (ox_add64 (a := ((j : Nat))) (b := 1) rfl rfl (by omega) ?_)
              refine xl_op (P := Try.prog) (some 5) rfl rfl (ox_assign (v := (.int .i64 ((j : Nat) + 1))) rfl ?_)
              refine xl_nil ?_
              have q87 := (o5.keep1 e27 (fun k hk => o5.ne_blk q76 (by decide) k hk))
              have q88 := ((q87.ext e28).keep e29 (fun _k _hk => (q87.ext e28).ne_own (q85.ext e28) (by decide) _k _hk))
              have q89 := (q88.keep1 e30 (fun k hk => q88.ne_blk q86 (by decide) k hk))
              have hq_on := q89
              have q90 := (o6.keep1 e30 (fun k hk => o6.ne_blk q86 (by decide) k hk))
              have hq_op := q90
              have q91 := (PNL.keep e26 (PNL.ext q71 e25) (fun b hb hh => nbn_f1 b hb hh))
              have q92 := (PNL.keep e27 q91 (fun b hb hh => PNL.off q76 (by decide) (by decide) q91 b hb hh))
              have q93 := (PNL.keep e29 (PNL.ext q92 e28) (fun b hb hh => PNL.offO (PNL.ext q92 e28) (q85.ext e28) (by decide) (by decide) b hb hh))
              have q94 := (PNL.keep e30 q93 (fun b hb hh => PNL.off q86 (by decide) (by decide) q93 b hb hh))
              have hq_pn := q94
              have q95 := (PRL.keep e29 (PRL.ext q78 e28) (fun b hb hh => nbp_f1 b hb hh))
              have q96 := (PRL.keep e30 q95 (fun b hb hh => PRL.off q86 (by decide) (by decide) q95 b hb hh))
              have hq_pr := q96
              have hq_g := b15
              have q97 := ((hs1.keep1 e24 (hs1.ne q63 (by decide))).ext e25)
              have q98 := (q97.keep e26 (fun _h => (q74.ext e25).ne_blk q97 (by decide) _ _h rfl))
              have q99 := ((q98.keep1 e27 (q98.ne q76 (by decide))).ext e28)
              have q100 := (q99.keep e29 (fun _h => (q85.ext e28).ne_blk q99 (by decide) _ _h rfl))
              have q101 := (q100.keep1 e30 (q100.ne q86 (by decide)))
              have hq_s := q101
              have hsz0 := e21.size
              have hsz1 := e22.size
              have hsz2 := e23.size
              have hsz3 := e24.size
              have hsz4 := e25.size
              have hsz5 := e26.size
              have hsz6 := e27.size
              have hsz7 := e28.size
              have hsz8 := e29.size
              have hsz9 := e30.size
              have q102 := (PN.keep e26 (PN.ext q72 e25) (fun b hb hh => hxn b hb hh))
              have q103 := (PN.keep e27 q102 (fun b hb hh => PN.off q76 (by decide) (by decide) q102 b hb hh))
              have q104 := (PN.keep e29 (PN.ext q103 e28) (fun b hb hh => PNL.offO (PN.one (PN.ext q103 e28)) (q85.ext e28) (by decide) (by decide) b (by simpa [blocksL] using hb) hh))
              have q105 := (PN.keep e30 q104 (fun b hb hh => PN.off q86 (by decide) (by decide) q104 b hb hh))
              have hq_x := q105
              have q106 := (PR.keep e29 (PR.ext q80 e28) (fun b hb hh => hun b hb hh))
              have q107 := (PR.keep e30 q106 (fun b hb hh => PR.off q86 (by decide) (by decide) q106 b hb hh))
              have hq_u := q107
              have hl1 : (ts ++ [(T.mk bn ka kcn (((ts.length : Nat) : Int) + 1) xk xn lf0 kt)]).length = ts.length + 1 := by simp
              have hl2 : (us ++ [(T.mk bm kb kcb (((ts.length : Nat) : Int) + 1) xk xn lf0 ku)]).length = us.length + 1 := by simp
              exact ⟨rfl, l.length - (j + 1), by omega, j + 1, (ts ++ [(T.mk bn ka kcn (((ts.length : Nat) : Int) + 1) xk xn lf0 kt)]), (us ++ [(T.mk bm kb kcb (((ts.length : Nat) : Int) + 1) xk xn lf0 ku)]), A5, A6, c5, c6, by omega, by omega, by omega, hG.snoc (x := (T.mk bn ka kcn (((ts.length : Nat) : Int) + 1) xk xn lf0 kt)) (u := (T.mk bm kb kcb (((ts.length : Nat) : Int) + 1) xk xn lf0 ku)) (skel_mk hks) (by simp only [WF]; exact ⟨fun h => absurd h hk1, fun _ => by unfold badKind at hnb; omega, WFL_of fun t ht => WFL_mem hG.wf (hkt t ht)⟩) (by simp only [sz]; omega) rfl (fun k hk => hkt k hk) (fun k hk => hku k hk) (.inr ⟨hnb, rfl⟩), by omega, g0_f2, g4_f2, (by first | exact rfl | exact (congrArg (Value.int .i64) (by omega))), (by rw [hl1, hl2]; exact hq_g), (by rw [hl1, List.map_append]; exact hq_on), (by rw [hl2, List.map_append]; exact hq_op), (PNL_snoc hq_pn hq_x), (PRL_snoc hq_pr hq_u), (by rw [hl1]; exact hq_s), (by rw [hl1]; exact nb2on), (by rw [hl2]; exact nb2op), (by rw [hl1]; exact low5), (by rw [hl2]; exact low6), (Ext.chg1 (Chg.trans (Ext.trans (Ext.chg1 (Chg.trans (Ext.trans (Ext.chg1 (Ext.chg1 (Ext.trans (Ext.trans (Ext.trans hEr x_f2) e21) e22) e23 (by omega)) e24 (by omega)) e25) e26 (fun b hb hl => absurd hl (by have := lon_f1 b hb; omega))) e27 (by omega)) e28) e29 (fun b hb hl => absurd hl (by have := lop_f1 b hb; omega))) e30 (by omega))⟩
    · skip
      have h1' := h1
      try simp only [Bool.or_eq_true, Bool.and_eq_true, decide_eq_true_eq, Bool.or_eq_false_iff, Bool.and_eq_false_iff, decide_eq_false_iff_not, Bool.not_eq_true', Bool.not_eq_false'] at h1'
      refine xc_exit ?_
      refine xc_seq ?_
      refine xc_region ?_
      refine xl_op (P := Try.prog) (some 204) rfl rfl (ox_move (v := (.pointer (some ⟨w1.heap.size, 0, none⟩))) g4_f1 ?_)
      refine xl_op (P := Try.prog) (some 2) rfl rfl (ox_assign (v := (.pointer (some ⟨w1.heap.size, 0, none⟩))) rfl ?_)
      refine xl_op (P := Try.prog) (some 3) rfl rfl (ox_assign (v := (.bool true)) rfl ?_)
      refine xl_nil ?_
      refine xc_ret ?_
      change leaves _ _ _ _ _ _ _
      refine leaves_nil (n := 205) (rs := [.tmp 2, .tmp 3]) (vs := [(.pointer (some ⟨w1.heap.size, 0, none⟩)), (.bool true)]) rfl ⟨⟨by decide, rfl⟩, ⟨by decide, rfl⟩, trivial⟩ ?_
      have hq_on := on_f1
      have hq_op := op_f1
      have hq_pn := pn_f1
      have hq_pr := pr_f1
      have hq_g := blk_w1.heap.size_f1
      have hq_s := blk_w.heap.size_f1
      exact ⟨_, _, ts, us, An, Ap, cn, cp, rfl, ⟨hq_g, hq_on, hq_op, hq_pn, hq_pr, hq_s, hG, by omega⟩, by omega, by omega, e_f1⟩

end Go.Proofs.Ythhbnodnpajljaa
