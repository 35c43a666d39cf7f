/-
  Copies of edits are as they were. No conditions.
-/
import Derived.Test.YthhbnodnpajljaaVxi
import Derived.Test.YthhbnodnpajljaaRows
import Derived.Test.YthhbnodnpajljaaDeb
import Derived.Test.YthhbnodnpajljaaDs
set_option linter.unusedVariables false
set_option linter.unusedSimpArgs false
set_option maxRecDepth 100000
set_option maxHeartbeats 4000000
namespace Go.Proofs.Ythhbnodnpajljaa
open Go Go.RowKit Go.Vx


theorem tA_3 : isAggT Try.prog 3 = some false := by kernel_rfl
theorem tA_5 : isAggT Try.prog 5 = some false := by kernel_rfl
theorem tA_57 : isAggT Try.prog 57 = some false := by kernel_rfl
theorem tE_57 : sliceT Try.prog 57 = some (5, 1, 1, (.int .u8 0)) := by kernel_rfl
theorem tF_59_0 : fieldT Try.prog 59 0 = some 0 := by kernel_rfl
theorem tF_59_1 : fieldT Try.prog 59 1 = some 1 := by kernel_rfl
theorem tF_59_2 : fieldT Try.prog 59 2 = some 2 := by kernel_rfl
theorem tU_5 : Try.prog.underlying 5 = some (.int .u8) := by kernel_rfl
theorem tU_57 : Try.prog.underlying 57 = some (.slice 5) := by kernel_rfl
theorem tU_9 : Try.prog.underlying 9 = some (.string) := by kernel_rfl
theorem tZ_59 : zeroOf Try.prog 59 = some (.agg #[(.int .i64 0), (.int .i64 0), (.slice none 0 0)]) := by kernel_rfl

theorem left_calls (l : List EB) (ys : List Ed) (gm cm lo : Nat) (A : Option Addr) (c : Nat) (w : World) (hO : Vx.Own w 59 3 (.slice (some ⟨gm, 0, none⟩) (l.length + 1) cm) (l.length + 1) (edC (ys ++ [edM]))) (hm : l.length + 1 ≤ cm) (hC : CpyL lo w l ys) (hA : RowA w A (edC (l.map EB.e))) (hn : l.length ≤ 4611686018427387904) (hb : ∀ x ∈ l, x.e.n ≤ 140737488351232) (hr : ∀ x ∈ l, x.rd w) :
    Calls Try.prog 21 #[(.slice (some ⟨gm, 0, none⟩) l.length cm), (.slice A l.length c)] w (Ret (fun v w' => v = .bool true ∧ Ext w w')) := by
  have hmk : CellsL w gm (l.length * 3) edM.cs := Own.ed hO (by rw [hC.1]; simp)
  refine calls_xc (n := 83) (f := fun s_ => [(.slice (some ⟨gm, 0, none⟩) l.length cm), (.slice A l.length c)].getD s_ undef) Try.func21 rfl rfl (by simp) (fun s_ => by simp) ?_
  refine xc_seq ?_
  refine xc_region ?_
  refine xl_op (P := Try.prog) (some 4) rfl rfl (ox_assign (v := (.bool false)) rfl ?_)
  refine xl_nil ?_
  refine xc_seq ?_
  refine xc_seq ?_
  refine xc_region ?_
  refine xl_op (P := Try.prog) (some 8) rfl rfl (ox_move (v := (.slice (some ⟨gm, 0, none⟩) l.length cm)) rfl ?_)
  refine xl_op (P := Try.prog) (some 9) rfl rfl (ox_len (A := (some ⟨gm, 0, none⟩)) (n := l.length) (cp := cm) rfl tU_43 rfl ?_)
  refine xl_op (P := Try.prog) (some 10) rfl rfl (ox_move (v := (.slice A l.length c)) rfl ?_)
  refine xl_op (P := Try.prog) (some 11) rfl rfl (ox_len (A := A) (n := l.length) (cp := c) rfl tU_43 rfl ?_)
  refine xl_op (P := Try.prog) (some 12) rfl rfl (ox_neq (k := .i64) (a := (((l.length : Nat) : Int))) (b := (((l.length : Nat) : Int))) rfl rfl ?_)
  refine xl_op (P := Try.prog) (some 13) rfl rfl (ox_move (v := (.bool (decide ((((l.length : Nat) : Int) : Int) ≠ (((l.length : Nat) : Int)))))) rfl ?_)
  refine xl_opg (P := Try.prog) (some 14) (j := 5) (b := false) rfl rfl (congrArg some (by simp : decide ((((l.length : Nat) : Int) : Int) ≠ (((l.length : Nat) : Int))) = false)) (ox_move (v := (.slice (some ⟨gm, 0, none⟩) l.length cm)) rfl ?_)
  refine xl_opg (P := Try.prog) (some 15) (j := 5) (b := false) rfl rfl (congrArg some (by simp : decide ((((l.length : Nat) : Int) : Int) ≠ (((l.length : Nat) : Int))) = false)) (ox_move (v := (.slice A l.length c)) rfl ?_)
  refine xl_opg (P := Try.prog) (some 16) (j := 5) (b := false) rfl rfl (congrArg some (by simp : decide ((((l.length : Nat) : Int) : Int) ≠ (((l.length : Nat) : Int))) = false)) (ox_len (A := A) (n := l.length) (cp := c) rfl tU_43 rfl ?_)
  refine xl_opg (P := Try.prog) (some 17) (j := 5) (b := false) rfl rfl (congrArg some (by simp : decide ((((l.length : Nat) : Int) : Int) ≠ (((l.length : Nat) : Int))) = false)) (ox_add64 (a := (((l.length : Nat) : Int))) (b := 1) rfl rfl (by omega) ?_)
  refine xl_opg (P := Try.prog) (some 18) (j := 5) (b := false) rfl rfl (congrArg some (by simp : decide ((((l.length : Nat) : Int) : Int) ≠ (((l.length : Nat) : Int))) = false)) (ox_sliceToN (A := (some ⟨gm, 0, none⟩)) (cp := cm) (i := (((l.length : Nat) : Int) + 1)) (l.length + 1) tE_43 rfl rfl (by omega) (by omega) (by omega) ?_)
  refine xl_opg (P := Try.prog) (some 19) (j := 5) (b := false) rfl rfl (congrArg some (by simp : decide ((((l.length : Nat) : Int) : Int) ≠ (((l.length : Nat) : Int))) = false)) (ox_move (v := (.slice A l.length c)) rfl ?_)
  refine xl_opg (P := Try.prog) (some 20) (j := 5) (b := false) rfl rfl (congrArg some (by simp : decide ((((l.length : Nat) : Int) : Int) ≠ (((l.length : Nat) : Int))) = false)) (ox_len (A := A) (n := l.length) (cp := c) rfl tU_43 rfl ?_)
  refine xl_opg (P := Try.prog) (some 21) (j := 5) (b := false) rfl rfl (congrArg some (by simp : decide ((((l.length : Nat) : Int) : Int) ≠ (((l.length : Nat) : Int))) = false)) (ox_indexAddr (b := gm) (o := 0) (i := (((l.length : Nat) : Int))) tE_43 rfl rfl (by omega) (by omega) ?_)
  refine xl_opg (P := Try.prog) (some 22) (j := 5) (b := false) rfl rfl (congrArg some (by simp : decide ((((l.length : Nat) : Int) : Int) ≠ (((l.length : Nat) : Int))) = false)) (ox_fieldAddr (b := gm) (o := (0 + (((l.length : Nat) : Int) : Int).toNat * 3)) tF_59_0 rfl ?_)
  refine xl_opg (P := Try.prog) (some 23) (j := 5) (b := false) rfl rfl (congrArg some (by simp : decide ((((l.length : Nat) : Int) : Int) ≠ (((l.length : Nat) : Int))) = false)) (ox_load (v := (.int .i64 77)) tA_3 rfl (by simpa using hmk.1) ?_)
  refine xl_opg (P := Try.prog) (some 24) (j := 5) (b := false) rfl rfl (congrArg some (by simp : decide ((((l.length : Nat) : Int) : Int) ≠ (((l.length : Nat) : Int))) = false)) (ox_neq (k := .i64) (a := 77) (b := 77) rfl rfl ?_)
  refine xl_op (P := Try.prog) (some 25) rfl rfl (ox_pick_f (v := (.bool (decide ((77 : Int) ≠ 77)))) (congrArg Value.bool (by simp : decide ((((l.length : Nat) : Int) : Int) ≠ (((l.length : Nat) : Int))) = false)) rfl ?_)
  refine xl_nil ?_
  refine xc_cond_f (congrArg Value.bool (by decide : decide ((77 : Int) ≠ 77) = false)) ?_
  refine xc_skip ?_
  refine xc_seq ?_
  refine xc_seq ?_
  refine xc_region ?_
  refine xl_op (P := Try.prog) (some 5) rfl rfl (ox_assign (v := (.int .i64 0)) rfl ?_)
  refine xl_nil ?_
  refine xc_block ?_
  refine xc_loopN (fun m f W => ∃ (j : Nat), m = l.length - j ∧ j ≤ l.length ∧ f 0 = (.slice (some ⟨gm, 0, none⟩) l.length cm) ∧ f 1 = (.slice A l.length c) ∧ f 5 = (.int .i64 ((j : Nat))) ∧ Ext w W) (l.length) ?_ ?_
  · exact ⟨0, by omega, by omega, rfl, rfl, (by first | exact rfl | exact (congrArg (Value.int .i64) (by omega))), (Chg.refl _ _)⟩
  · rintro m f1 w1 ⟨j, hm, hj, g0_f1, g1_f1, g5_f1, e_f1⟩
    have hzE := e_f1.size
    refine xc_seq ?_
    refine xc_seq ?_
    refine xc_region ?_
    refine xl_op (P := Try.prog) (some 26) rfl rfl (ox_move (v := (.int .i64 ((j : Nat)))) g5_f1 ?_)
    refine xl_op (P := Try.prog) (some 27) rfl rfl (ox_move (v := (.slice A l.length c)) g1_f1 ?_)
    refine xl_op (P := Try.prog) (some 28) rfl rfl (ox_len (A := A) (n := l.length) (cp := c) rfl tU_43 rfl ?_)
    refine xl_op (P := Try.prog) (some 29) rfl rfl (ox_lss (k := .i64) (a := ((j : Nat))) (b := (((l.length : Nat) : Int))) rfl rfl ?_)
    refine xl_nil ?_
    refine xc_if (p := ((j : Nat) : Int) < (((l.length : Nat) : Int))) rfl (fun h1 => ?_) (fun h1 => ?_)
    · skip
      have hjl : j < l.length := by omega
      obtain ⟨x, hx⟩ := get_ex (l := l) (i := j) hjl
      obtain ⟨y, hy⟩ := get_ex (l := ys) (i := j) (by rw [← hC.1]; exact hjl)
      have hrx := hr x (List.mem_of_getElem? hx)
      have hbx := hb x (List.mem_of_getElem? hx)
      have hp := hC.2 j x y hx hy
      obtain ⟨gb, hyA, hyc, hrb, h165⟩ := hp.bytes hrx.1
      have hcy : CellsL w gm (j * 3) [.int .i64 x.e.pl, .int .i64 x.e.del, .slice (some ⟨gb, 0, none⟩) x.e.n y.c] := by have h1 := Own.ed hO (i := j) (e := y) (by rw [List.getElem?_append_left (get_len hy)]; exact hy); rw [Ed.cs, hp.pl, hp.del, hyA, hp.n] at h1; exact h1
      have hlm : (l.map EB.e)[j]? = some x.e := by rw [List.getElem?_map, hx]; rfl
      obtain ⟨g, o, rfl⟩ := hA.ex (by intro hh; cases l with | nil => simp at hx | cons q l => simp [edC, Ed.cs] at hh)
      have hce : CellsL w g (o + j * 3) x.e.cs := cellsL_flat Ed.cs 3 (fun _ => rfl) hA.cells hlm
      refine xc_skip ?_
      refine xc_seq ?_
      refine xc_block ?_
      refine xc_seq ?_
      refine xc_region ?_
      refine xl_op (P := Try.prog) (some 32) rfl rfl (ox_move (v := (.slice (some ⟨gm, 0, none⟩) l.length cm)) g0_f1 ?_)
      refine xl_op (P := Try.prog) (some 33) rfl rfl (ox_move (v := (.int .i64 ((j : Nat)))) g5_f1 ?_)
      refine xl_op (P := Try.prog) (some 34) rfl rfl (ox_indexAddr (b := gm) (o := 0) (i := ((j : Nat))) tE_43 rfl rfl (by omega) (by omega) ?_)
      refine xl_op (P := Try.prog) (some 35) rfl rfl (ox_loadN (vs := [(.int .i64 x.e.pl), (.int .i64 x.e.del), (.slice (some ⟨gb, 0, none⟩) x.e.n y.c)]) tA_59 tS_59 rfl rfl (by simpa using CellsL.keep e_f1 not_false hcy) ?_)
      refine xl_op (P := Try.prog) (some 6) rfl rfl (ox_alloc tZ_59 ?_)
      intro w2 e1 z1 b1
      replace b1 : Blk w2 w1.heap.size #[(.int .i64 0), (.int .i64 0), (.slice none 0 0)] 59 := b1
      refine xl_op (P := Try.prog) none rfl rfl (ox_store (n := 3) (vs := [(.int .i64 x.e.pl), (.int .i64 x.e.del), (.slice (some ⟨gb, 0, none⟩) x.e.n y.c)]) tS_59 rfl (v := (.agg #[(.int .i64 x.e.pl), (.int .i64 x.e.del), (.slice (some ⟨gb, 0, none⟩) x.e.n y.c)])) rfl rfl rfl rfl b1 (Nat.le_of_ble_eq_true rfl) ?_)
      intro w3 e2 z2 b2
      replace b2 : Blk w3 w1.heap.size #[(.int .i64 x.e.pl), (.int .i64 x.e.del), (.slice (some ⟨gb, 0, none⟩) x.e.n y.c)] 59 := b2
      refine xl_nil ?_
      refine xc_seq ?_
      refine xc_region ?_
      refine xl_op (P := Try.prog) (some 36) rfl rfl (ox_move (v := (.slice (some ⟨g, o, none⟩) l.length c)) g1_f1 ?_)
      refine xl_op (P := Try.prog) (some 37) rfl rfl (ox_move (v := (.int .i64 ((j : Nat)))) g5_f1 ?_)
      refine xl_op (P := Try.prog) (some 38) rfl rfl (ox_indexAddr (b := g) (o := o) (i := ((j : Nat))) tE_43 rfl rfl (by omega) (by omega) ?_)
      refine xl_op (P := Try.prog) (some 39) rfl rfl (ox_fieldAddr (b := g) (o := (o + j * 3)) tF_59_2 rfl ?_)
      refine xl_op (P := Try.prog) (some 40) rfl rfl (ox_load (v := (.slice x.e.A x.e.n x.e.c)) tA_57 rfl (CellsL.keep (Ext.chg1 (Ext.trans e_f1 e1) e2 (by omega)) not_false hce).2.2.1 ?_)
      refine xl_op (P := Try.prog) (some 41) rfl rfl (ox_len (A := x.e.A) (n := x.e.n) (cp := x.e.c) rfl tU_57 rfl ?_)
      refine xl_op (P := Try.prog) (some 7) rfl rfl (ox_assign (v := (.int .i64 (((x.e.n : Nat) : Int)))) rfl ?_)
      refine xl_nil ?_
      refine xc_seq ?_
      refine xc_regionE [] (fun W_ => Chg (fun _ => False) w3 W_) hmix ?_
      intro w4 e3 z3
      have hS1 : Chg (fun _ => False) w3 w4 := Ext.to e3
      refine xd_pure 0 (some 42) rfl rfl (by kernel_rfl) (v := (.pointer (some ⟨w1.heap.size, 0, none⟩))) (.inl ⟨rfl, fun W_ hW_ => ox_fieldAddr (b := w1.heap.size) (o := 0) tF_59_0 rfl ⟨rfl, rfl⟩⟩) ?_
      refine xd_take 1 (some 43) rfl rfl (by kernel_rfl) (v := (.int .i64 x.e.pl)) (.inl ⟨rfl, fun W_ hW_ => ox_load (v := (.int .i64 x.e.pl)) tA_3 rfl ((b2.ext hW_).cell rfl) ⟨rfl, rfl⟩⟩) hS1 ?_
      refine xd_pure 2 (some 44) rfl rfl (by kernel_rfl) (v := (.slice (some ⟨g, o, none⟩) l.length c)) (.inl ⟨rfl, fun W_ hW_ => ox_move (v := (.slice (some ⟨g, o, none⟩) l.length c)) g1_f1 ⟨rfl, rfl⟩⟩) ?_
      refine xd_pure 3 (some 45) rfl rfl (by kernel_rfl) (v := (.int .i64 ((j : Nat)))) (.inl ⟨rfl, fun W_ hW_ => ox_move (v := (.int .i64 ((j : Nat)))) g5_f1 ⟨rfl, rfl⟩⟩) ?_
      refine xd_pure 4 (some 46) rfl rfl (by kernel_rfl) (v := (.pointer (some ⟨g, o + j * 3, none⟩))) (.inl ⟨rfl, fun W_ hW_ => ox_indexAddr (b := g) (o := o) (i := ((j : Nat))) tE_43 rfl rfl (by omega) (by omega) ⟨rfl, rfl⟩⟩) ?_
      refine xd_pure 5 (some 47) rfl rfl (by kernel_rfl) (v := (.pointer (some ⟨g, o + j * 3, none⟩))) (.inl ⟨rfl, fun W_ hW_ => ox_fieldAddr (b := g) (o := (o + j * 3)) tF_59_0 rfl ⟨rfl, rfl⟩⟩) ?_
      refine xd_take 6 (some 48) rfl rfl (by kernel_rfl) (v := (.int .i64 x.e.pl)) (.inl ⟨rfl, fun W_ hW_ => ox_load (v := (.int .i64 x.e.pl)) tA_3 rfl (CellsL.keep (Ext.trans (Ext.chg1 (Ext.trans e_f1 e1) e2 (by omega)) hW_) not_false hce).1 ⟨rfl, rfl⟩⟩) hS1 ?_
      refine xd_pure 7 (some 49) rfl rfl (by kernel_rfl) (v := (.bool (decide ((x.e.pl : Int) ≠ x.e.pl)))) (.inl ⟨rfl, fun W_ hW_ => ox_neq (k := .i64) (a := x.e.pl) (b := x.e.pl) rfl rfl ⟨rfl, rfl⟩⟩) ?_
      refine xd_pure 8 (some 50) rfl rfl (by kernel_rfl) (v := (.bool (decide ((x.e.pl : Int) ≠ x.e.pl)))) (.inl ⟨rfl, fun W_ hW_ => ox_move (v := (.bool (decide ((x.e.pl : Int) ≠ x.e.pl)))) rfl ⟨rfl, rfl⟩⟩) ?_
      refine xd_pure 9 (some 51) rfl rfl (by kernel_rfl) (v := (.pointer (some ⟨w1.heap.size, 1, none⟩))) (.inl ⟨(wanted_of (j := 8) (b := false) rfl (congrArg some (by simp : decide ((x.e.pl : Int) ≠ x.e.pl) = false))), fun W_ hW_ => ox_fieldAddr (b := w1.heap.size) (o := 0) tF_59_1 rfl ⟨rfl, rfl⟩⟩) ?_
      refine xd_take 10 (some 52) rfl rfl (by kernel_rfl) (v := (.int .i64 x.e.del)) (.inl ⟨(wanted_of (j := 8) (b := false) rfl (congrArg some (by simp : decide ((x.e.pl : Int) ≠ x.e.pl) = false))), fun W_ hW_ => ox_load (v := (.int .i64 x.e.del)) tA_3 rfl ((b2.ext hW_).cell rfl) ⟨rfl, rfl⟩⟩) hS1 ?_
      refine xd_pure 11 (some 53) rfl rfl (by kernel_rfl) (v := (.slice (some ⟨g, o, none⟩) l.length c)) (.inl ⟨(wanted_of (j := 8) (b := false) rfl (congrArg some (by simp : decide ((x.e.pl : Int) ≠ x.e.pl) = false))), fun W_ hW_ => ox_move (v := (.slice (some ⟨g, o, none⟩) l.length c)) g1_f1 ⟨rfl, rfl⟩⟩) ?_
      refine xd_pure 12 (some 54) rfl rfl (by kernel_rfl) (v := (.int .i64 ((j : Nat)))) (.inl ⟨(wanted_of (j := 8) (b := false) rfl (congrArg some (by simp : decide ((x.e.pl : Int) ≠ x.e.pl) = false))), fun W_ hW_ => ox_move (v := (.int .i64 ((j : Nat)))) g5_f1 ⟨rfl, rfl⟩⟩) ?_
      refine xd_pure 13 (some 55) rfl rfl (by kernel_rfl) (v := (.pointer (some ⟨g, o + j * 3, none⟩))) (.inl ⟨(wanted_of (j := 8) (b := false) rfl (congrArg some (by simp : decide ((x.e.pl : Int) ≠ x.e.pl) = false))), fun W_ hW_ => ox_indexAddr (b := g) (o := o) (i := ((j : Nat))) tE_43 rfl rfl (by omega) (by omega) ⟨rfl, rfl⟩⟩) ?_
      refine xd_pure 14 (some 56) rfl rfl (by kernel_rfl) (v := (.pointer (some ⟨g, o + j * 3 + 1, none⟩))) (.inl ⟨(wanted_of (j := 8) (b := false) rfl (congrArg some (by simp : decide ((x.e.pl : Int) ≠ x.e.pl) = false))), fun W_ hW_ => ox_fieldAddr (b := g) (o := (o + j * 3)) tF_59_1 rfl ⟨rfl, rfl⟩⟩) ?_
      refine xd_take 15 (some 57) rfl rfl (by kernel_rfl) (v := (.int .i64 x.e.del)) (.inl ⟨(wanted_of (j := 8) (b := false) rfl (congrArg some (by simp : decide ((x.e.pl : Int) ≠ x.e.pl) = false))), fun W_ hW_ => ox_load (v := (.int .i64 x.e.del)) tA_3 rfl (CellsL.keep (Ext.trans (Ext.chg1 (Ext.trans e_f1 e1) e2 (by omega)) hW_) not_false hce).2.1 ⟨rfl, rfl⟩⟩) hS1 ?_
      refine xd_pure 16 (some 58) rfl rfl (by kernel_rfl) (v := (.bool (decide ((x.e.del : Int) ≠ x.e.del)))) (.inl ⟨(wanted_of (j := 8) (b := false) rfl (congrArg some (by simp : decide ((x.e.pl : Int) ≠ x.e.pl) = false))), fun W_ hW_ => ox_neq (k := .i64) (a := x.e.del) (b := x.e.del) rfl rfl ⟨rfl, rfl⟩⟩) ?_
      refine xd_pure 17 (some 59) rfl rfl (by kernel_rfl) (v := (.bool (decide ((x.e.del : Int) ≠ x.e.del)))) (.inl ⟨rfl, fun W_ hW_ => ox_pick_f (v := (.bool (decide ((x.e.del : Int) ≠ x.e.del)))) (congrArg Value.bool (by simp : decide ((x.e.pl : Int) ≠ x.e.pl) = false)) rfl ⟨rfl, rfl⟩⟩) ?_
      refine xd_pure 18 (some 60) rfl rfl (by kernel_rfl) (v := (.bool (decide ((x.e.del : Int) ≠ x.e.del)))) (.inl ⟨rfl, fun W_ hW_ => ox_move (v := (.bool (decide ((x.e.del : Int) ≠ x.e.del)))) rfl ⟨rfl, rfl⟩⟩) ?_
      refine xd_pure 19 (some 61) rfl rfl (by kernel_rfl) (v := (.pointer (some ⟨w1.heap.size, 2, none⟩))) (.inl ⟨(wanted_of (j := 18) (b := false) rfl (congrArg some (by simp : decide ((x.e.del : Int) ≠ x.e.del) = false))), fun W_ hW_ => ox_fieldAddr (b := w1.heap.size) (o := 0) tF_59_2 rfl ⟨rfl, rfl⟩⟩) ?_
      refine xd_take 20 (some 62) rfl rfl (by kernel_rfl) (v := (.slice (some ⟨gb, 0, none⟩) x.e.n y.c)) (.inl ⟨(wanted_of (j := 18) (b := false) rfl (congrArg some (by simp : decide ((x.e.del : Int) ≠ x.e.del) = false))), fun W_ hW_ => ox_load (v := (.slice (some ⟨gb, 0, none⟩) x.e.n y.c)) tA_57 rfl ((b2.ext hW_).cell rfl) ⟨rfl, rfl⟩⟩) hS1 ?_
      refine xd_take 21 (some 63) rfl rfl (by kernel_rfl) (v := (.string (⟨(x.bs).toArray⟩))) (.inl ⟨(wanted_of (j := 18) (b := false) rfl (congrArg some (by simp : decide ((x.e.del : Int) ≠ x.e.del) = false))), fun W_ hW_ => ox_convStr (A := (some ⟨gb, 0, none⟩)) (cp := y.c) (l := x.bs) (n := x.e.n) tU_57 tU_5 tU_9 rfl hrx.1 (RowA.ext hrb (Ext.trans (Ext.chg1 (Ext.trans e_f1 e1) e2 (by omega)) hW_)) ⟨rfl, rfl⟩⟩) hS1 ?_
      refine xd_pure 22 (some 64) rfl rfl (by kernel_rfl) (v := (.slice (some ⟨g, o, none⟩) l.length c)) (.inl ⟨(wanted_of (j := 18) (b := false) rfl (congrArg some (by simp : decide ((x.e.del : Int) ≠ x.e.del) = false))), fun W_ hW_ => ox_move (v := (.slice (some ⟨g, o, none⟩) l.length c)) g1_f1 ⟨rfl, rfl⟩⟩) ?_
      refine xd_pure 23 (some 65) rfl rfl (by kernel_rfl) (v := (.int .i64 ((j : Nat)))) (.inl ⟨(wanted_of (j := 18) (b := false) rfl (congrArg some (by simp : decide ((x.e.del : Int) ≠ x.e.del) = false))), fun W_ hW_ => ox_move (v := (.int .i64 ((j : Nat)))) g5_f1 ⟨rfl, rfl⟩⟩) ?_
      refine xd_pure 24 (some 66) rfl rfl (by kernel_rfl) (v := (.pointer (some ⟨g, o + j * 3, none⟩))) (.inl ⟨(wanted_of (j := 18) (b := false) rfl (congrArg some (by simp : decide ((x.e.del : Int) ≠ x.e.del) = false))), fun W_ hW_ => ox_indexAddr (b := g) (o := o) (i := ((j : Nat))) tE_43 rfl rfl (by omega) (by omega) ⟨rfl, rfl⟩⟩) ?_
      refine xd_pure 25 (some 67) rfl rfl (by kernel_rfl) (v := (.pointer (some ⟨g, o + j * 3 + 2, none⟩))) (.inl ⟨(wanted_of (j := 18) (b := false) rfl (congrArg some (by simp : decide ((x.e.del : Int) ≠ x.e.del) = false))), fun W_ hW_ => ox_fieldAddr (b := g) (o := (o + j * 3)) tF_59_2 rfl ⟨rfl, rfl⟩⟩) ?_
      refine xd_take 26 (some 68) rfl rfl (by kernel_rfl) (v := (.slice x.e.A x.e.n x.e.c)) (.inl ⟨(wanted_of (j := 18) (b := false) rfl (congrArg some (by simp : decide ((x.e.del : Int) ≠ x.e.del) = false))), fun W_ hW_ => ox_load (v := (.slice x.e.A x.e.n x.e.c)) tA_57 rfl (CellsL.keep (Ext.trans (Ext.chg1 (Ext.trans e_f1 e1) e2 (by omega)) hW_) not_false hce).2.2.1 ⟨rfl, rfl⟩⟩) hS1 ?_
      refine xd_take 27 (some 69) rfl rfl (by kernel_rfl) (v := (.string (⟨(x.bs).toArray⟩))) (.inl ⟨(wanted_of (j := 18) (b := false) rfl (congrArg some (by simp : decide ((x.e.del : Int) ≠ x.e.del) = false))), fun W_ hW_ => ox_convStr (A := x.e.A) (cp := x.e.c) (l := x.bs) (n := x.e.n) tU_57 tU_5 tU_9 rfl hrx.1 (RowA.ext hrx.2 (Ext.trans (Ext.chg1 (Ext.trans e_f1 e1) e2 (by omega)) hW_)) ⟨rfl, rfl⟩⟩) hS1 ?_
      refine xd_pure 28 (some 70) rfl rfl (by kernel_rfl) (v := (.bool (decide ((⟨(x.bs).toArray⟩ : ByteArray) ≠ ⟨(x.bs).toArray⟩)))) (.inl ⟨(wanted_of (j := 18) (b := false) rfl (congrArg some (by simp : decide ((x.e.del : Int) ≠ x.e.del) = false))), fun W_ hW_ => ox_neqStr (a := (⟨(x.bs).toArray⟩)) (b := (⟨(x.bs).toArray⟩)) tU_9 rfl rfl ⟨rfl, rfl⟩⟩) ?_
      refine xd_pure 29 (some 71) rfl rfl (by kernel_rfl) (v := (.bool (decide ((⟨(x.bs).toArray⟩ : ByteArray) ≠ ⟨(x.bs).toArray⟩)))) (.inl ⟨rfl, fun W_ hW_ => ox_pick_f (v := (.bool (decide ((⟨(x.bs).toArray⟩ : ByteArray) ≠ ⟨(x.bs).toArray⟩)))) (congrArg Value.bool (by simp : decide ((x.e.del : Int) ≠ x.e.del) = false)) rfl ⟨rfl, rfl⟩⟩) ?_
      refine xd_pure 30 (some 72) rfl rfl (by kernel_rfl) (v := (.bool (decide ((⟨(x.bs).toArray⟩ : ByteArray) ≠ ⟨(x.bs).toArray⟩)))) (.inl ⟨rfl, fun W_ hW_ => ox_move (v := (.bool (decide ((⟨(x.bs).toArray⟩ : ByteArray) ≠ ⟨(x.bs).toArray⟩)))) rfl ⟨rfl, rfl⟩⟩) ?_
      refine xd_pure 31 (some 73) rfl rfl (by kernel_rfl) (v := (.pointer (some ⟨w1.heap.size, 2, none⟩))) (.inl ⟨(wanted_of (j := 30) (b := false) rfl (congrArg some (by simp : decide ((⟨(x.bs).toArray⟩ : ByteArray) ≠ ⟨(x.bs).toArray⟩) = false))), fun W_ hW_ => ox_fieldAddr (b := w1.heap.size) (o := 0) tF_59_2 rfl ⟨rfl, rfl⟩⟩) ?_
      refine xd_take 32 (some 74) rfl rfl (by kernel_rfl) (v := (.slice (some ⟨gb, 0, none⟩) x.e.n y.c)) (.inl ⟨(wanted_of (j := 30) (b := false) rfl (congrArg some (by simp : decide ((⟨(x.bs).toArray⟩ : ByteArray) ≠ ⟨(x.bs).toArray⟩) = false))), fun W_ hW_ => ox_load (v := (.slice (some ⟨gb, 0, none⟩) x.e.n y.c)) tA_57 rfl ((b2.ext hW_).cell rfl) ⟨rfl, rfl⟩⟩) hS1 ?_
      refine xd_pure 33 (some 75) rfl rfl (by kernel_rfl) (v := (.int .i64 (((x.e.n : Nat) : Int)))) (.inl ⟨(wanted_of (j := 30) (b := false) rfl (congrArg some (by simp : decide ((⟨(x.bs).toArray⟩ : ByteArray) ≠ ⟨(x.bs).toArray⟩) = false))), fun W_ hW_ => ox_move (v := (.int .i64 (((x.e.n : Nat) : Int)))) rfl ⟨rfl, rfl⟩⟩) ?_
      refine xd_pure 34 (some 76) rfl rfl (by kernel_rfl) (v := (.int .i64 (((x.e.n : Nat) : Int) + 1))) (.inl ⟨(wanted_of (j := 30) (b := false) rfl (congrArg some (by simp : decide ((⟨(x.bs).toArray⟩ : ByteArray) ≠ ⟨(x.bs).toArray⟩) = false))), fun W_ hW_ => ox_add64 (a := (((x.e.n : Nat) : Int))) (b := 1) rfl rfl (by omega) ⟨rfl, rfl⟩⟩) ?_
      refine xd_pure 35 (some 77) rfl rfl (by kernel_rfl) (v := (.slice (some ⟨gb, 0, none⟩) (x.e.n + 1) y.c)) (.inl ⟨(wanted_of (j := 30) (b := false) rfl (congrArg some (by simp : decide ((⟨(x.bs).toArray⟩ : ByteArray) ≠ ⟨(x.bs).toArray⟩) = false))), fun W_ hW_ => ox_sliceToN (A := (some ⟨gb, 0, none⟩)) (cp := y.c) (i := (((x.e.n : Nat) : Int) + 1)) (x.e.n + 1) tE_57 rfl rfl (by omega) (by omega) (by omega) ⟨rfl, rfl⟩⟩) ?_
      refine xd_pure 36 (some 78) rfl rfl (by kernel_rfl) (v := (.int .i64 (((x.e.n : Nat) : Int)))) (.inl ⟨(wanted_of (j := 30) (b := false) rfl (congrArg some (by simp : decide ((⟨(x.bs).toArray⟩ : ByteArray) ≠ ⟨(x.bs).toArray⟩) = false))), fun W_ hW_ => ox_move (v := (.int .i64 (((x.e.n : Nat) : Int)))) rfl ⟨rfl, rfl⟩⟩) ?_
      refine xd_pure 37 (some 79) rfl rfl (by kernel_rfl) (v := (.pointer (some ⟨gb, 0 + (((x.e.n : Nat) : Int) : Int).toNat * 1, none⟩))) (.inl ⟨(wanted_of (j := 30) (b := false) rfl (congrArg some (by simp : decide ((⟨(x.bs).toArray⟩ : ByteArray) ≠ ⟨(x.bs).toArray⟩) = false))), fun W_ hW_ => ox_indexAddr (b := gb) (o := 0) (i := (((x.e.n : Nat) : Int))) tE_57 rfl rfl (by omega) (by omega) ⟨rfl, rfl⟩⟩) ?_
      refine xd_take 38 (some 80) rfl rfl (by kernel_rfl) (v := (.int .u8 165)) (.inl ⟨(wanted_of (j := 30) (b := false) rfl (congrArg some (by simp : decide ((⟨(x.bs).toArray⟩ : ByteArray) ≠ ⟨(x.bs).toArray⟩) = false))), fun W_ hW_ => ox_load (v := (.int .u8 165)) tA_5 rfl (by simpa using Ext.cell h165 (Ext.trans (Ext.chg1 (Ext.trans e_f1 e1) e2 (by omega)) hW_)) ⟨rfl, rfl⟩⟩) hS1 ?_
      refine xd_pure 39 (some 81) rfl rfl (by kernel_rfl) (v := (.bool (decide ((165 : Int) ≠ 165)))) (.inl ⟨(wanted_of (j := 30) (b := false) rfl (congrArg some (by simp : decide ((⟨(x.bs).toArray⟩ : ByteArray) ≠ ⟨(x.bs).toArray⟩) = false))), fun W_ hW_ => ox_neq (k := .u8) (a := 165) (b := 165) rfl rfl ⟨rfl, rfl⟩⟩) ?_
      refine xd_pure 40 (some 82) rfl rfl (by kernel_rfl) (v := (.bool (decide ((165 : Int) ≠ 165)))) (.inl ⟨rfl, fun W_ hW_ => ox_pick_f (v := (.bool (decide ((165 : Int) ≠ 165)))) (congrArg Value.bool (by simp : decide ((⟨(x.bs).toArray⟩ : ByteArray) ≠ ⟨(x.bs).toArray⟩) = false)) rfl ⟨rfl, rfl⟩⟩) ?_
      refine xd_done (by kernel_rfl) ?_ _
      refine xc_cond_f (congrArg Value.bool (by decide : decide ((165 : Int) ≠ 165) = false)) ?_
      refine xc_skip ?_
      refine xc_region ?_
      refine xl_op (P := Try.prog) (some 30) rfl rfl (ox_move (v := (.int .i64 ((j : Nat)))) g5_f1 ?_)
      refine xl_op (P := Try.prog) (some 31) rfl rfl (ox_add64 (a := ((j : Nat))) (b := 1) rfl rfl (by omega) ?_)
      refine xl_op (P := Try.prog) (some 5) rfl rfl (ox_assign (v := (.int .i64 ((j : Nat) + 1))) rfl ?_)
      refine xl_nil ?_
      have hsz0 := e1.size
      have hsz1 := e2.size
      have hsz2 := e3.size
      exact ⟨rfl, l.length - (j + 1), by omega, j + 1, by omega, by omega, g0_f1, g1_f1, (by first | exact rfl | exact (congrArg (Value.int .i64) (by omega))), (Ext.trans (Ext.chg1 (Ext.trans e_f1 e1) e2 (by omega)) e3)⟩
    · skip
      refine xc_exit ?_
      refine xc_seq ?_
      refine xc_region ?_
      refine xl_op (P := Try.prog) (some 4) rfl rfl (ox_assign (v := (.bool true)) rfl ?_)
      refine xl_nil ?_
      refine xc_ret ?_
      change leaves _ _ _ _ _ _ _
      refine leaves_nil (n := 83) (rs := [.tmp 4]) (vs := [(.bool true)]) rfl ⟨⟨by decide, rfl⟩, trivial⟩ ?_
      exact ⟨rfl, e_f1⟩

end Go.Proofs.Ythhbnodnpajljaa
