/-
  sameHunks, overwritten, grownHunks, grownOps. No conditions.
-/
import Derived.Test.YthhbnodnpajljaaVxi
import Derived.Test.YthhbnodnpajljaaRows
import Derived.Test.YthhbnodnpajljaaRmb
import Derived.Test.YthhbnodnpajljaaRgb
import Derived.Test.YthhbnodnpajljaaDeb
import Derived.Test.YthhbnodnpajljaaDn
import Derived.Test.YthhbnodnpajljaaDsc
set_option linter.unusedVariables false
set_option linter.unusedSimpArgs false
set_option maxRecDepth 100000
set_option maxHeartbeats 4000000
namespace Go.Proofs.Ythhbnodnpajljaa
open Go Go.RowKit Go.Vx


theorem fS_40 : flatS Try.prog 40 [some .i64, some .i64, some .i64, some .i64] = true := by kernel_rfl
theorem fS_88 : flatS Try.prog 88 [some .i64, some .i64, some .i64, some .i64, some .i64, some .i64, some .i64, some .i64, some .i64] = true := by kernel_rfl
theorem tA_40 : isAggT Try.prog 40 = some true := by kernel_rfl
theorem tA_54 : isAggT Try.prog 54 = some false := by kernel_rfl
theorem tA_88 : isAggT Try.prog 88 = some true := by kernel_rfl
theorem tE_54 : sliceT Try.prog 54 = some (88, 9, 72, (.agg #[(.int .i64 0), (.int .i64 0), (.int .i64 0), (.int .i64 0), (.int .i64 0), (.int .i64 0), (.int .i64 0), (.int .i64 0), (.int .i64 0)])) := by kernel_rfl
theorem tE_62 : sliceT Try.prog 62 = some (34, 1, 24, (.slice none 0 0)) := by kernel_rfl
theorem tE_63 : sliceT Try.prog 63 = some (54, 1, 24, (.slice none 0 0)) := by kernel_rfl
theorem tP_88 : placesT Try.prog 88 = some #[(0, 1), (1, 1), (2, 1), (3, 1), (4, 1), (5, 4)] := by kernel_rfl
theorem tS_40 : sizeT Try.prog 40 = some 4 := by kernel_rfl
theorem tS_88 : sizeT Try.prog 88 = some 9 := by kernel_rfl
theorem tU_34 : Try.prog.underlying 34 = some (.slice 40) := by kernel_rfl
theorem tU_54 : Try.prog.underlying 54 = some (.slice 88) := by kernel_rfl
theorem tU_62 : Try.prog.underlying 62 = some (.slice 34) := by kernel_rfl
theorem tU_63 : Try.prog.underlying 63 = some (.slice 54) := by kernel_rfl
theorem tZ_88 : zeroOf Try.prog 88 = some (.agg #[(.int .i64 0), (.int .i64 0), (.int .i64 0), (.int .i64 0), (.int .i64 0), (.int .i64 0), (.int .i64 0), (.int .i64 0), (.int .i64 0)]) := by kernel_rfl

theorem sameHunks_eq (H : List Hk) (A B : Option Addr) (ca cb : Nat) (w : World) (hA : RowA w A (hkC H)) (hB : RowA w B (hkC H)) (hn : H.length ≤ 4194304) :
    Calls Try.prog 27 #[(.slice A H.length ca), (.slice B H.length cb)] w (Ret (fun v w' => v = .bool true ∧ Ext w w')) := by
  refine calls_xc (n := 26) (f := fun s_ => [(.slice A H.length ca), (.slice B H.length cb)].getD s_ undef) Try.func27 rfl rfl (by simp) (fun s_ => by simp) ?_
  refine xc_seq ?_
  refine xc_region ?_
  refine xl_op (P := Try.prog) (some 4) rfl rfl (ox_assign (v := (.bool false)) rfl ?_)
  refine xl_nil ?_
  refine xc_seq ?_
  refine xc_seq ?_
  refine xc_region ?_
  refine xl_op (P := Try.prog) (some 6) rfl rfl (ox_move (v := (.slice A H.length ca)) rfl ?_)
  refine xl_op (P := Try.prog) (some 7) rfl rfl (ox_len (A := A) (n := H.length) (cp := ca) rfl tU_34 rfl ?_)
  refine xl_op (P := Try.prog) (some 8) rfl rfl (ox_move (v := (.slice B H.length cb)) rfl ?_)
  refine xl_op (P := Try.prog) (some 9) rfl rfl (ox_len (A := B) (n := H.length) (cp := cb) rfl tU_34 rfl ?_)
  refine xl_op (P := Try.prog) (some 10) rfl rfl (ox_neq (k := .i64) (a := (((H.length : Nat) : Int))) (b := (((H.length : Nat) : Int))) rfl rfl ?_)
  refine xl_nil ?_
  refine xc_cond_f (congrArg Value.bool (by simp : decide ((((H.length : Nat) : Int) : Int) ≠ (((H.length : Nat) : Int))) = false)) ?_
  refine xc_skip ?_
  refine xc_seq ?_
  refine xc_seq ?_
  refine xc_region ?_
  refine xl_op (P := Try.prog) (some 5) rfl rfl (ox_assign (v := (.int .i64 0)) rfl ?_)
  refine xl_nil ?_
  refine xc_block ?_
  refine xc_loopN (fun m f W => ∃ (i : Nat), m = H.length - i ∧ i ≤ H.length ∧ f 0 = (.slice A H.length ca) ∧ f 1 = (.slice B H.length cb) ∧ f 5 = (.int .i64 ((i : Nat))) ∧ Ext w W) (H.length) ?_ ?_
  · exact ⟨0, by omega, by omega, rfl, rfl, (by first | exact rfl | exact (congrArg (Value.int .i64) (by omega))), (Chg.refl _ _)⟩
  · rintro m f1 w1 ⟨i, hm, hi, g0_f1, g1_f1, g5_f1, e_f1⟩
    have hzE := e_f1.size
    refine xc_seq ?_
    refine xc_seq ?_
    refine xc_region ?_
    refine xl_op (P := Try.prog) (some 11) rfl rfl (ox_move (v := (.int .i64 ((i : Nat)))) g5_f1 ?_)
    refine xl_op (P := Try.prog) (some 12) rfl rfl (ox_move (v := (.slice A H.length ca)) g0_f1 ?_)
    refine xl_op (P := Try.prog) (some 13) rfl rfl (ox_len (A := A) (n := H.length) (cp := ca) rfl tU_34 rfl ?_)
    refine xl_op (P := Try.prog) (some 14) rfl rfl (ox_lss (k := .i64) (a := ((i : Nat))) (b := (((H.length : Nat) : Int))) rfl rfl ?_)
    refine xl_nil ?_
    refine xc_if (p := ((i : Nat) : Int) < (((H.length : Nat) : Int))) rfl (fun h1 => ?_) (fun h1 => ?_)
    · skip
      have hil : i < H.length := by omega
      obtain ⟨x, hx⟩ := get_ex (l := H) (i := i) hil
      obtain ⟨g1, o1, rfl⟩ := hA.ex (by intro hh; cases H with | nil => simp at hx | cons q l => simp [hkC] at hh)
      have hcg1 : CellsL w g1 (o1 + i * 4) (hkCs x) := cellsL_flat hkCs 4 (fun _ => rfl) hA.cells hx
      obtain ⟨g2, o2, rfl⟩ := hB.ex (by intro hh; cases H with | nil => simp at hx | cons q l => simp [hkC] at hh)
      have hcg2 : CellsL w g2 (o2 + i * 4) (hkCs x) := cellsL_flat hkCs 4 (fun _ => rfl) hB.cells hx
      refine xc_skip ?_
      refine xc_seq ?_
      refine xc_block ?_
      refine xc_seq ?_
      refine xc_regionE [] (fun W_ => Chg (fun _ => False) w1 W_) hmix ?_
      intro w2 e1 z1
      have hS1 : Chg (fun _ => False) w1 w2 := Ext.to e1
      refine xd_pure 0 (some 17) rfl rfl (by kernel_rfl) (v := (.slice (some ⟨g1, o1, none⟩) H.length ca)) (.inl ⟨rfl, fun W_ hW_ => ox_move (v := (.slice (some ⟨g1, o1, none⟩) H.length ca)) g0_f1 ⟨rfl, rfl⟩⟩) ?_
      refine xd_pure 1 (some 18) rfl rfl (by kernel_rfl) (v := (.int .i64 ((i : Nat)))) (.inl ⟨rfl, fun W_ hW_ => ox_move (v := (.int .i64 ((i : Nat)))) g5_f1 ⟨rfl, rfl⟩⟩) ?_
      refine xd_pure 2 (some 19) rfl rfl (by kernel_rfl) (v := (.pointer (some ⟨g1, o1 + i * 4, none⟩))) (.inl ⟨rfl, fun W_ hW_ => ox_indexAddr (b := g1) (o := o1) (i := ((i : Nat))) tE_34 rfl rfl (by omega) (by omega) ⟨rfl, rfl⟩⟩) ?_
      refine xd_take 3 (some 20) rfl rfl (by kernel_rfl) (v := (.agg #[(.int .i64 x.frm), (.int .i64 x.to), (.int .i64 x.into), (.int .i64 x.upto)])) (.inl ⟨rfl, fun W_ hW_ => ox_loadN (vs := [(.int .i64 x.frm), (.int .i64 x.to), (.int .i64 x.into), (.int .i64 x.upto)]) tA_40 tS_40 rfl rfl (by simpa [hkCs] using CellsL.keep (Ext.trans e_f1 hW_) not_false hcg1) ⟨rfl, rfl⟩⟩) hS1 ?_
      refine xd_pure 4 (some 21) rfl rfl (by kernel_rfl) (v := (.slice (some ⟨g2, o2, none⟩) H.length cb)) (.inl ⟨rfl, fun W_ hW_ => ox_move (v := (.slice (some ⟨g2, o2, none⟩) H.length cb)) g1_f1 ⟨rfl, rfl⟩⟩) ?_
      refine xd_pure 5 (some 22) rfl rfl (by kernel_rfl) (v := (.int .i64 ((i : Nat)))) (.inl ⟨rfl, fun W_ hW_ => ox_move (v := (.int .i64 ((i : Nat)))) g5_f1 ⟨rfl, rfl⟩⟩) ?_
      refine xd_pure 6 (some 23) rfl rfl (by kernel_rfl) (v := (.pointer (some ⟨g2, o2 + i * 4, none⟩))) (.inl ⟨rfl, fun W_ hW_ => ox_indexAddr (b := g2) (o := o2) (i := ((i : Nat))) tE_34 rfl rfl (by omega) (by omega) ⟨rfl, rfl⟩⟩) ?_
      refine xd_take 7 (some 24) rfl rfl (by kernel_rfl) (v := (.agg #[(.int .i64 x.frm), (.int .i64 x.to), (.int .i64 x.into), (.int .i64 x.upto)])) (.inl ⟨rfl, fun W_ hW_ => ox_loadN (vs := [(.int .i64 x.frm), (.int .i64 x.to), (.int .i64 x.into), (.int .i64 x.upto)]) tA_40 tS_40 rfl rfl (by simpa [hkCs] using CellsL.keep (Ext.trans e_f1 hW_) not_false hcg2) ⟨rfl, rfl⟩⟩) hS1 ?_
      refine xd_pure 8 (some 25) rfl rfl (by kernel_rfl) (v := (.bool (!decide (((x.frm : Int) = x.frm ∧ (x.to : Int) = x.to ∧ (x.into : Int) = x.into ∧ (x.upto : Int) = x.upto))))) (.inl ⟨rfl, fun W_ hW_ => ox_neqF (xs := [(.int .i64 x.frm), (.int .i64 x.to), (.int .i64 x.into), (.int .i64 x.upto)]) (ys := [(.int .i64 x.frm), (.int .i64 x.to), (.int .i64 x.into), (.int .i64 x.upto)]) (p := ((x.frm : Int) = x.frm ∧ (x.to : Int) = x.to ∧ (x.into : Int) = x.into ∧ (x.upto : Int) = x.upto)) fS_40 rfl rfl rfl rfl (by simp) ⟨rfl, rfl⟩⟩) ?_
      refine xd_done (by kernel_rfl) ?_ _
      refine xc_cond_f (congrArg Value.bool (by simp : (!decide (((x.frm : Int) = x.frm ∧ (x.to : Int) = x.to ∧ (x.into : Int) = x.into ∧ (x.upto : Int) = x.upto))) = false)) ?_
      refine xc_skip ?_
      refine xc_region ?_
      refine xl_op (P := Try.prog) (some 15) rfl rfl (ox_move (v := (.int .i64 ((i : Nat)))) g5_f1 ?_)
      refine xl_op (P := Try.prog) (some 16) rfl rfl (ox_add64 (a := ((i : Nat))) (b := 1) rfl rfl (by omega) ?_)
      refine xl_op (P := Try.prog) (some 5) rfl rfl (ox_assign (v := (.int .i64 ((i : Nat) + 1))) rfl ?_)
      refine xl_nil ?_
      have hsz0 := e1.size
      exact ⟨rfl, H.length - (i + 1), by omega, i + 1, by omega, by omega, g0_f1, g1_f1, (by first | exact rfl | exact (congrArg (Value.int .i64) (by omega))), (Ext.trans e_f1 e1)⟩
    · skip
      refine xc_exit ?_
      refine xc_seq ?_
      refine xc_region ?_
      refine xl_op (P := Try.prog) (some 4) rfl rfl (ox_assign (v := (.bool true)) rfl ?_)
      refine xl_nil ?_
      refine xc_ret ?_
      change leaves _ _ _ _ _ _ _
      refine leaves_nil (n := 26) (rs := [.tmp 4]) (vs := [(.bool true)]) rfl ⟨⟨by decide, rfl⟩, trivial⟩ ?_
      exact ⟨rfl, e_f1⟩

theorem overwritten_calls (H : List Hk) (O : List OpD) (A B : Option Addr) (ca cb : Nat) (w : World) (hA : Vx.Own w 40 4 (.slice A H.length ca) H.length (hkC H)) (hB : Vx.Own w 88 9 (.slice B O.length cb) O.length (opC O)) (hn : H.length ≤ 4194304) (hm : O.length ≤ 4194304) :
    Calls Try.prog 28 #[(.slice A H.length ca), (.slice B O.length cb)] w (Ret (fun _ w' => Chg (fun b => ((.slice A H.length ca) : Value).ownBlock = some b ∨ ((.slice B O.length cb) : Value).ownBlock = some b) w w')) := by
  refine calls_xc (n := 26) (f := fun s_ => [(.slice A H.length ca), (.slice B O.length cb)].getD s_ undef) Try.func28 rfl rfl (by simp) (fun s_ => by simp) ?_
  refine xc_seq ?_
  refine xc_seq ?_
  refine xc_region ?_
  refine xl_op (P := Try.prog) (some 4) rfl rfl (ox_assign (v := (.int .i64 0)) rfl ?_)
  refine xl_nil ?_
  refine xc_block ?_
  refine xc_loopN (fun m f W => ∃ (i : Nat) (xs : List Value) (ys : List Value), m = H.length - i ∧ i ≤ H.length ∧ f 0 = (.slice A H.length ca) ∧ f 1 = (.slice B O.length cb) ∧ f 4 = (.int .i64 ((i : Nat))) ∧ Vx.Own W 40 4 (.slice A H.length ca) H.length xs ∧ Vx.Own W 88 9 (.slice B O.length cb) O.length ys ∧ Chg (fun b => ((.slice A H.length ca) : Value).ownBlock = some b ∨ ((.slice B O.length cb) : Value).ownBlock = some b) w W) (H.length) ?_ ?_
  · exact ⟨0, (hkC H), (opC O), by omega, by omega, rfl, rfl, (by first | exact rfl | exact (congrArg (Value.int .i64) (by omega))), hA, hB, (Chg.refl (fun b => ((.slice A H.length ca) : Value).ownBlock = some b ∨ ((.slice B O.length cb) : Value).ownBlock = some b) w)⟩
  · rintro m f1 w1 ⟨i, xs, ys, hm, hi, g0_f1, g1_f1, g4_f1, h_f1, o_f1, c_f1⟩
    
    refine xc_seq ?_
    refine xc_seq ?_
    refine xc_region ?_
    refine xl_op (P := Try.prog) (some 6) rfl rfl (ox_move (v := (.int .i64 ((i : Nat)))) g4_f1 ?_)
    refine xl_op (P := Try.prog) (some 7) rfl rfl (ox_move (v := (.slice A H.length ca)) g0_f1 ?_)
    refine xl_op (P := Try.prog) (some 8) rfl rfl (ox_len (A := A) (n := H.length) (cp := ca) rfl tU_34 rfl ?_)
    refine xl_op (P := Try.prog) (some 9) rfl rfl (ox_lss (k := .i64) (a := ((i : Nat))) (b := (((H.length : Nat) : Int))) rfl rfl ?_)
    refine xl_nil ?_
    refine xc_if (p := ((i : Nat) : Int) < (((H.length : Nat) : Int))) rfl (fun h1 => ?_) (fun h1 => ?_)
    · skip
      have hil : i < H.length := by omega
      obtain ⟨g1, c9g1, heqg1, _⟩ := h_f1.some_of (by omega)
      simp only [Value.slice.injEq, true_and] at heqg1
      obtain ⟨rfl, rfl⟩ := heqg1
      refine xc_skip ?_
      refine xc_seq ?_
      refine xc_block ?_
      refine xc_region ?_
      refine xl_op (P := Try.prog) (some 12) rfl rfl (ox_move (v := (.slice (some ⟨g1, 0, none⟩) H.length ca)) g0_f1 ?_)
      refine xl_op (P := Try.prog) (some 13) rfl rfl (ox_move (v := (.int .i64 ((i : Nat)))) g4_f1 ?_)
      refine xl_op (P := Try.prog) (some 14) rfl rfl (ox_mkStruct (ps := [(0, (.int .i64 (-1)))]) (cs := #[(.int .i64 (-1)), (.int .i64 0), (.int .i64 0), (.int .i64 0)]) tZ_40 tP_40 rfl (by kernel_rfl) ?_)
      refine xl_op (P := Try.prog) (some 15) rfl rfl (ox_indexAddr (b := g1) (o := 0) (i := ((i : Nat))) tE_34 rfl rfl (by omega) (by omega) ?_)
      refine xl_op (P := Try.prog) none rfl rfl (ox_storeO (m := 4) (vs := [(.int .i64 (-1)), (.int .i64 0), (.int .i64 0), (.int .i64 0)]) tS_40 rfl (v := (.agg #[(.int .i64 (-1)), (.int .i64 0), (.int .i64 0), (.int .i64 0)])) rfl rfl rfl rfl h_f1 (by omega) ?_)
      intro w2 e1 z1 hS1
      replace e1 : Chg1 g1 w1 w2 := e1
      refine xl_nil ?_
      refine xc_region ?_
      refine xl_op (P := Try.prog) (some 10) rfl rfl (ox_move (v := (.int .i64 ((i : Nat)))) g4_f1 ?_)
      refine xl_op (P := Try.prog) (some 11) rfl rfl (ox_add64 (a := ((i : Nat))) (b := 1) rfl rfl (by omega) ?_)
      refine xl_op (P := Try.prog) (some 4) rfl rfl (ox_assign (v := (.int .i64 ((i : Nat) + 1))) rfl ?_)
      refine xl_nil ?_
      have q1 := (o_f1.keep1 e1 (fun k hk => fun hh => o_f1.ne_own h_f1 (by decide) k hk (by rw [hh]; rfl)))
      exact ⟨rfl, H.length - (i + 1), by omega, i + 1, (setL xs (0 + i * 4) [(.int .i64 (-1)), (.int .i64 0), (.int .i64 0), (.int .i64 0)]), ys, by omega, by omega, g0_f1, g1_f1, (by first | exact rfl | exact (congrArg (Value.int .i64) (by omega))), hS1, q1, (Chg.chg1 c_f1 e1 (.inl (by first | exact .inl rfl | exact .inr rfl)))⟩
    · skip
      refine xc_exit ?_
      refine xc_seq ?_
      refine xc_region ?_
      refine xl_op (P := Try.prog) (some 5) rfl rfl (ox_assign (v := (.int .i64 0)) rfl ?_)
      refine xl_nil ?_
      refine xc_block ?_
      refine xc_loopN (fun m f W => ∃ (i : Nat) (xs : List Value) (ys : List Value), m = O.length - i ∧ i ≤ O.length ∧ f 1 = (.slice B O.length cb) ∧ f 5 = (.int .i64 ((i : Nat))) ∧ Vx.Own W 40 4 (.slice A H.length ca) H.length xs ∧ Vx.Own W 88 9 (.slice B O.length cb) O.length ys ∧ Chg (fun b => ((.slice A H.length ca) : Value).ownBlock = some b ∨ ((.slice B O.length cb) : Value).ownBlock = some b) w W) (O.length) ?_ ?_
      · exact ⟨0, xs, ys, by omega, by omega, g1_f1, (by first | exact rfl | exact (congrArg (Value.int .i64) (by omega))), h_f1, o_f1, c_f1⟩
      · rintro m f2 w3 ⟨i, xs, ys, hm, hi, g1_f2, g5_f2, h_f2, o_f2, c_f2⟩
        
        refine xc_seq ?_
        refine xc_seq ?_
        refine xc_region ?_
        refine xl_op (P := Try.prog) (some 16) rfl rfl (ox_move (v := (.int .i64 ((i : Nat)))) g5_f2 ?_)
        refine xl_op (P := Try.prog) (some 17) rfl rfl (ox_move (v := (.slice B O.length cb)) g1_f2 ?_)
        refine xl_op (P := Try.prog) (some 18) rfl rfl (ox_len (A := B) (n := O.length) (cp := cb) rfl tU_54 rfl ?_)
        refine xl_op (P := Try.prog) (some 19) rfl rfl (ox_lss (k := .i64) (a := ((i : Nat))) (b := (((O.length : Nat) : Int))) rfl rfl ?_)
        refine xl_nil ?_
        refine xc_if (p := ((i : Nat) : Int) < (((O.length : Nat) : Int))) rfl (fun h2 => ?_) (fun h2 => ?_)
        · skip
          have hil : i < O.length := by omega
          obtain ⟨g2, c9g2, heqg2, _⟩ := o_f2.some_of (by omega)
          simp only [Value.slice.injEq, true_and] at heqg2
          obtain ⟨rfl, rfl⟩ := heqg2
          refine xc_skip ?_
          refine xc_seq ?_
          refine xc_block ?_
          refine xc_region ?_
          refine xl_op (P := Try.prog) (some 22) rfl rfl (ox_move (v := (.slice (some ⟨g2, 0, none⟩) O.length cb)) g1_f2 ?_)
          refine xl_op (P := Try.prog) (some 23) rfl rfl (ox_move (v := (.int .i64 ((i : Nat)))) g5_f2 ?_)
          refine xl_op (P := Try.prog) (some 24) rfl rfl (ox_mkStruct (ps := [(0, (.int .i64 (-1)))]) (cs := #[(.int .i64 (-1)), (.int .i64 0), (.int .i64 0), (.int .i64 0), (.int .i64 0), (.int .i64 0), (.int .i64 0), (.int .i64 0), (.int .i64 0)]) tZ_88 tP_88 rfl (by kernel_rfl) ?_)
          refine xl_op (P := Try.prog) (some 25) rfl rfl (ox_indexAddr (b := g2) (o := 0) (i := ((i : Nat))) tE_54 rfl rfl (by omega) (by omega) ?_)
          refine xl_op (P := Try.prog) none rfl rfl (ox_storeO (m := 9) (vs := [(.int .i64 (-1)), (.int .i64 0), (.int .i64 0), (.int .i64 0), (.int .i64 0), (.int .i64 0), (.int .i64 0), (.int .i64 0), (.int .i64 0)]) tS_88 rfl (v := (.agg #[(.int .i64 (-1)), (.int .i64 0), (.int .i64 0), (.int .i64 0), (.int .i64 0), (.int .i64 0), (.int .i64 0), (.int .i64 0), (.int .i64 0)])) rfl rfl rfl rfl o_f2 (by omega) ?_)
          intro w4 e2 z2 hS2
          replace e2 : Chg1 g2 w3 w4 := e2
          refine xl_nil ?_
          refine xc_region ?_
          refine xl_op (P := Try.prog) (some 20) rfl rfl (ox_move (v := (.int .i64 ((i : Nat)))) g5_f2 ?_)
          refine xl_op (P := Try.prog) (some 21) rfl rfl (ox_add64 (a := ((i : Nat))) (b := 1) rfl rfl (by omega) ?_)
          refine xl_op (P := Try.prog) (some 5) rfl rfl (ox_assign (v := (.int .i64 ((i : Nat) + 1))) rfl ?_)
          refine xl_nil ?_
          have q2 := (h_f2.keep1 e2 (fun k hk => fun hh => h_f2.ne_own o_f2 (by decide) k hk (by rw [hh]; rfl)))
          exact ⟨rfl, O.length - (i + 1), by omega, i + 1, xs, (setL ys (0 + i * 9) [(.int .i64 (-1)), (.int .i64 0), (.int .i64 0), (.int .i64 0), (.int .i64 0), (.int .i64 0), (.int .i64 0), (.int .i64 0), (.int .i64 0)]), by omega, by omega, g1_f2, (by first | exact rfl | exact (congrArg (Value.int .i64) (by omega))), q2, hS2, (Chg.chg1 c_f2 e2 (.inl (by first | exact .inl rfl | exact .inr rfl)))⟩
        · skip
          refine xc_exit ?_
          change leaves _ _ _ _ _ _ _
          refine leaves_nil (n := 26) (rs := []) (vs := []) rfl trivial ?_
          exact c_f2

theorem grownHunks_calls (l : List Sl3) (A : Option Addr) (c : Nat) (w : World) (hAll : Vx.Own w 34 1 (.slice A l.length c) l.length (l.map Sl3.v)) (hg0 : G1 40 4 (mkH (-1)) l w 0 0) (hap : Apart l) (hl : l.length ≤ 64) (hn : ∀ (j : Nat) (x : Sl3), l[j]? = some x → x.n ≤ 4194304) :
    Calls Try.prog 30 #[(.slice A l.length c)] w (Ret (fun v w' => v = .bool true ∧ Chg (inL l) w w')) := by
  refine calls_xc (n := 122) (f := fun s_ => [(.slice A l.length c)].getD s_ undef) Try.func30 rfl rfl (by simp) (fun s_ => by simp) ?_
  refine xc_seq ?_
  refine xc_region ?_
  refine xl_op (P := Try.prog) (some 2) rfl rfl (ox_assign (v := (.bool false)) rfl ?_)
  refine xl_nil ?_
  refine xc_seq ?_
  refine xc_seq ?_
  refine xc_region ?_
  refine xl_op (P := Try.prog) (some 3) rfl rfl (ox_assign (v := (.int .i64 0)) rfl ?_)
  refine xl_nil ?_
  refine xc_block ?_
  refine xc_loopN (fun m f W => ∃ (i : Nat), m = l.length - i ∧ i ≤ l.length ∧ f 0 = (.slice A l.length c) ∧ f 3 = (.int .i64 ((i : Nat))) ∧ Vx.Own W 34 1 (.slice A l.length c) l.length (l.map Sl3.v) ∧ G1 40 4 (mkH (-1)) l W i 0 ∧ Chg (inL l) w W) (l.length) ?_ ?_
  · exact ⟨0, by omega, by omega, rfl, (by first | exact rfl | exact (congrArg (Value.int .i64) (by omega))), hAll, hg0, (Chg.refl (inL l) w)⟩
  · rintro m f1 w1 ⟨i, hm, hi, g0_f1, g3_f1, all_f1, g_f1, c_f1⟩
    have hzC := c_f1.size
    refine xc_seq ?_
    refine xc_seq ?_
    refine xc_region ?_
    refine xl_op (P := Try.prog) (some 13) rfl rfl (ox_move (v := (.int .i64 ((i : Nat)))) g3_f1 ?_)
    refine xl_op (P := Try.prog) (some 14) rfl rfl (ox_move (v := (.slice A l.length c)) g0_f1 ?_)
    refine xl_op (P := Try.prog) (some 15) rfl rfl (ox_len (A := A) (n := l.length) (cp := c) rfl tU_62 rfl ?_)
    refine xl_op (P := Try.prog) (some 16) rfl rfl (ox_lss (k := .i64) (a := ((i : Nat))) (b := (((l.length : Nat) : Int))) rfl rfl ?_)
    refine xl_nil ?_
    refine xc_if (p := ((i : Nat) : Int) < (((l.length : Nat) : Int))) rfl (fun h1 => ?_) (fun h1 => ?_)
    · skip
      have hil : i < l.length := by omega
      obtain ⟨⟨Ax, nx, cx⟩, hx⟩ := get_ex (l := l) (i := i) hil
      have hnx : nx ≤ 4194304 := hn i _ hx
      obtain ⟨gA, c9A, heqA, _⟩ := hAll.some_of (by omega)
      simp only [Value.slice.injEq, true_and] at heqA
      obtain ⟨rfl, rfl⟩ := heqA
      refine xc_skip ?_
      refine xc_seq ?_
      refine xc_block ?_
      refine xc_seq ?_
      refine xc_region ?_
      refine xl_op (P := Try.prog) (some 4) rfl rfl (ox_assign (v := (.int .i64 0)) rfl ?_)
      refine xl_nil ?_
      refine xc_block ?_
      refine xc_loopN (fun m f W => ∃ (k : Nat), m = nx - k ∧ k ≤ nx ∧ f 0 = (.slice (some ⟨gA, 0, none⟩) l.length c) ∧ f 3 = (.int .i64 ((i : Nat))) ∧ f 4 = (.int .i64 ((k : Nat))) ∧ Vx.Own W 34 1 (.slice (some ⟨gA, 0, none⟩) l.length c) l.length (l.map Sl3.v) ∧ G1 40 4 (mkH (-1)) l W i k ∧ Chg (inL l) w W) (nx) ?_ ?_
      · exact ⟨0, by omega, by omega, g0_f1, g3_f1, (by first | exact rfl | exact (congrArg (Value.int .i64) (by omega))), all_f1, g_f1, c_f1⟩
      · rintro m f2 w2 ⟨k, hm, hk, g0_f2, g3_f2, g4_f2, all_f2, g_f2, c_f2⟩
        have hzD := c_f2.size
        refine xc_seq ?_
        refine xc_seq ?_
        refine xc_region ?_
        refine xl_op (P := Try.prog) (some 19) rfl rfl (ox_move (v := (.int .i64 ((k : Nat)))) g4_f2 ?_)
        refine xl_op (P := Try.prog) (some 20) rfl rfl (ox_move (v := (.slice (some ⟨gA, 0, none⟩) l.length c)) g0_f2 ?_)
        refine xl_op (P := Try.prog) (some 21) rfl rfl (ox_move (v := (.int .i64 ((i : Nat)))) g3_f2 ?_)
        refine xl_op (P := Try.prog) (some 22) rfl rfl (ox_indexAddr (b := gA) (o := 0) (i := ((i : Nat))) tE_62 rfl rfl (by omega) (by omega) ?_)
        refine xl_op (P := Try.prog) (some 23) rfl rfl (ox_load (v := (.slice Ax nx cx)) tA_34 rfl (Own.rowv all_f2 hx) ?_)
        refine xl_op (P := Try.prog) (some 24) rfl rfl (ox_len (A := Ax) (n := nx) (cp := cx) rfl tU_34 rfl ?_)
        refine xl_op (P := Try.prog) (some 25) rfl rfl (ox_lss (k := .i64) (a := ((k : Nat))) (b := (((nx : Nat) : Int))) rfl rfl ?_)
        refine xl_nil ?_
        refine xc_if (p := ((k : Nat) : Int) < (((nx : Nat) : Int))) rfl (fun h2 => ?_) (fun h2 => ?_)
        · skip
          obtain ⟨cs, hown, _, htk'⟩ := g_f2 i _ hx
          have htk := htk' rfl
          clear htk'
          have hRgx : Vx.Own w2 40 4 (.slice Ax nx cx) nx _ := hown
          obtain ⟨gx, c9gx, heqgx, _⟩ := hRgx.some_of (by omega)
          simp only [Value.slice.injEq, true_and] at heqgx
          obtain ⟨rfl, rfl⟩ := heqgx
          refine xc_skip ?_
          refine xc_seq ?_
          refine xc_block ?_
          refine xc_region ?_
          refine xl_op (P := Try.prog) (some 28) rfl rfl (ox_move (v := (.slice (some ⟨gA, 0, none⟩) l.length c)) g0_f2 ?_)
          refine xl_op (P := Try.prog) (some 29) rfl rfl (ox_move (v := (.int .i64 ((i : Nat)))) g3_f2 ?_)
          refine xl_op (P := Try.prog) (some 30) rfl rfl (ox_indexAddr (b := gA) (o := 0) (i := ((i : Nat))) tE_62 rfl rfl (by omega) (by omega) ?_)
          refine xl_op (P := Try.prog) (some 31) rfl rfl (ox_load (v := (.slice (some ⟨gx, 0, none⟩) nx cx)) tA_34 rfl (Own.rowv all_f2 hx) ?_)
          refine xl_op (P := Try.prog) (some 32) rfl rfl (ox_move (v := (.int .i64 ((k : Nat)))) g4_f2 ?_)
          refine xl_op (P := Try.prog) (some 33) rfl rfl (ox_move (v := (.int .i64 ((i : Nat)))) g3_f2 ?_)
          refine xl_op (P := Try.prog) (some 34) rfl rfl (ox_move (v := (.int .i64 ((k : Nat)))) g4_f2 ?_)
          refine xl_op (P := Try.prog) (some 35) rfl rfl (ox_mkStruct (ps := [(0, (.int .i64 ((i : Nat)))), (1, (.int .i64 ((k : Nat)))), (2, (.int .i64 (-1)))]) (cs := #[(.int .i64 ((i : Nat))), (.int .i64 ((k : Nat))), (.int .i64 (-1)), (.int .i64 0)]) tZ_40 tP_40 rfl (by kernel_rfl) ?_)
          refine xl_op (P := Try.prog) (some 36) rfl rfl (ox_indexAddr (b := gx) (o := 0) (i := ((k : Nat))) tE_34 rfl rfl (by omega) (by omega) ?_)
          refine xl_op (P := Try.prog) none rfl rfl (ox_storeO (m := 4) (vs := [(.int .i64 ((i : Nat))), (.int .i64 ((k : Nat))), (.int .i64 (-1)), (.int .i64 0)]) tS_40 rfl (v := (.agg #[(.int .i64 ((i : Nat))), (.int .i64 ((k : Nat))), (.int .i64 (-1)), (.int .i64 0)])) rfl rfl rfl rfl hRgx (by omega) ?_)
          intro w3 e1 z1 hS1
          replace e1 : Chg1 gx w2 w3 := e1
          have hgS := G1.step g_f2 hap (fun _ _ => rfl) hx (by omega) e1 (hRgx).len htk hS1
          refine xl_nil ?_
          refine xc_region ?_
          refine xl_op (P := Try.prog) (some 26) rfl rfl (ox_move (v := (.int .i64 ((k : Nat)))) g4_f2 ?_)
          refine xl_op (P := Try.prog) (some 27) rfl rfl (ox_add64 (a := ((k : Nat))) (b := 1) rfl rfl (by omega) ?_)
          refine xl_op (P := Try.prog) (some 4) rfl rfl (ox_assign (v := (.int .i64 ((k : Nat) + 1))) rfl ?_)
          refine xl_nil ?_
          have q1 := (all_f2.keep1 e1 (fun k hk => fun hh => all_f2.ne_own hRgx (by decide) k hk (by rw [hh]; rfl)))
          exact ⟨rfl, nx - (k + 1), by omega, k + 1, by omega, by omega, g0_f2, g3_f2, (by first | exact rfl | exact (congrArg (Value.int .i64) (by omega))), q1, hgS, (Chg.chg1 c_f2 e1 (.inl ⟨i, _, hx, rfl⟩))⟩
        · skip
          refine xc_exit ?_
          refine xc_region ?_
          refine xl_op (P := Try.prog) (some 17) rfl rfl (ox_move (v := (.int .i64 ((i : Nat)))) g3_f2 ?_)
          refine xl_op (P := Try.prog) (some 18) rfl rfl (ox_add64 (a := ((i : Nat))) (b := 1) rfl rfl (by omega) ?_)
          refine xl_op (P := Try.prog) (some 3) rfl rfl (ox_assign (v := (.int .i64 ((i : Nat) + 1))) rfl ?_)
          refine xl_nil ?_
          have hg9 := G1.next (g_f2) hx (show k = nx by omega)
          exact ⟨rfl, l.length - (i + 1), by omega, i + 1, by omega, by omega, g0_f2, (by first | exact rfl | exact (congrArg (Value.int .i64) (by omega))), all_f2, hg9, c_f2⟩
    · skip
      refine xc_exit ?_
      refine xc_seq ?_
      refine xc_region ?_
      refine xl_op (P := Try.prog) (some 5) rfl rfl (ox_assign (v := (.slice none 0 0)) rfl ?_)
      refine xl_nil ?_
      refine xc_seq ?_
      refine xc_seq ?_
      refine xc_region ?_
      refine xl_op (P := Try.prog) (some 6) rfl rfl (ox_assign (v := (.int .i64 0)) rfl ?_)
      refine xl_nil ?_
      refine xc_block ?_
      have hie : i = l.length := by omega
      have hg2 : G2 40 4 (mkH (-1)) (mkH (-2)) l w1.heap.size [] w1 := G1.g2 (g_f1) hie
      have hcB := c_f1
      have hzB := hcB.size
      refine xc_loopN (fun m f W => ∃ (i : Nat) (gl : List Sl3) (Ag : Option Addr) (cg : Nat), m = l.length - i ∧ i ≤ l.length ∧ gl.length = i ∧ 0 ≤ i ∧ f 0 = (.slice A l.length c) ∧ f 5 = (.slice Ag i cg) ∧ f 6 = (.int .i64 ((i : Nat))) ∧ Vx.Own W 34 1 (.slice A l.length c) l.length (l.map Sl3.v) ∧ G2 40 4 (mkH (-1)) (mkH (-2)) l w1.heap.size gl W ∧ Vx.Own W 34 1 (.slice Ag i cg) i (gl.map Sl3.v) ∧ (∀ k, ((.slice Ag i cg) : Value).ownBlock = some k → w.heap.size ≤ k) ∧ Chg (inL l) w W ∧ w1.heap.size ≤ W.heap.size) (l.length) ?_ ?_
      · exact ⟨0, [], none, 0, by omega, by omega, rfl, by omega, g0_f1, rfl, (by first | exact rfl | exact (congrArg (Value.int .i64) (by omega))), all_f1, hg2, (Vx.Own.nil _ _ _), (by simp [Value.ownBlock]), hcB, (Nat.le_refl _)⟩
      · rintro m f3 w4 ⟨i, gl, Ag, cg, hm, hi, hgl, htriv, g0_f3, g5_f3, g6_f3, all_f3, g_f3, gr_f3, lo_f3, c_f3, b_f3⟩
        have hzC := c_f3.size
        refine xc_seq ?_
        refine xc_seq ?_
        refine xc_region ?_
        refine xl_op (P := Try.prog) (some 37) rfl rfl (ox_move (v := (.int .i64 ((i : Nat)))) g6_f3 ?_)
        refine xl_op (P := Try.prog) (some 38) rfl rfl (ox_move (v := (.slice A l.length c)) g0_f3 ?_)
        refine xl_op (P := Try.prog) (some 39) rfl rfl (ox_len (A := A) (n := l.length) (cp := c) rfl tU_62 rfl ?_)
        refine xl_op (P := Try.prog) (some 40) rfl rfl (ox_lss (k := .i64) (a := ((i : Nat))) (b := (((l.length : Nat) : Int))) rfl rfl ?_)
        refine xl_nil ?_
        refine xc_if (p := ((i : Nat) : Int) < (((l.length : Nat) : Int))) rfl (fun h3 => ?_) (fun h3 => ?_)
        · skip
          have hil : i < l.length := by omega
          obtain ⟨⟨Ax, nx, cx⟩, hx⟩ := get_ex (l := l) (i := i) hil
          have hnx : nx ≤ 4194304 := hn i _ hx
          obtain ⟨gA, c9A, heqA, _⟩ := hAll.some_of (by omega)
          simp only [Value.slice.injEq, true_and] at heqA
          obtain ⟨rfl, rfl⟩ := heqA
          refine xc_skip ?_
          refine xc_seq ?_
          refine xc_block ?_
          refine xc_seq ?_
          refine xc_region ?_
          refine xl_op (P := Try.prog) (some 43) rfl rfl (ox_move (v := (.slice (some ⟨gA, 0, none⟩) l.length c)) g0_f3 ?_)
          refine xl_op (P := Try.prog) (some 44) rfl rfl (ox_move (v := (.int .i64 ((i : Nat)))) g6_f3 ?_)
          refine xl_op (P := Try.prog) (some 45) rfl rfl (ox_indexAddr (b := gA) (o := 0) (i := ((i : Nat))) tE_62 rfl rfl (by omega) (by omega) ?_)
          refine xl_op (P := Try.prog) (some 46) rfl rfl (ox_load (v := (.slice Ax nx cx)) tA_34 rfl (Own.rowv all_f3 hx) ?_)
          refine xl_op (P := Try.prog) (some 7) rfl rfl (ox_assign (v := (.slice Ax nx cx)) rfl ?_)
          refine xl_nil ?_
          refine xc_seq ?_
          refine xc_seq ?_
          refine xc_region ?_
          refine xl_op (P := Try.prog) (some 8) rfl rfl (ox_assign (v := (.int .i64 0)) rfl ?_)
          refine xl_nil ?_
          refine xc_block ?_
          have hI0 : I2 40 4 (mkH (-1)) (mkH (-2)) w1.heap.size gl w4 i ⟨Ax, nx, cx⟩ 0 (Sl3.v ⟨Ax, nx, cx⟩) := I2.zero g_f3 hx
          refine xc_loopN (fun m f W => ∃ (k : Nat) (Av : Option Addr) (cv : Nat), m = 70 - k ∧ k ≤ 70 ∧ f 0 = (.slice (some ⟨gA, 0, none⟩) l.length c) ∧ f 5 = (.slice Ag i cg) ∧ f 6 = (.int .i64 ((i : Nat))) ∧ f 7 = (.slice Av (nx + k) cv) ∧ f 8 = (.int .i64 ((k : Nat))) ∧ Vx.Own W 34 1 (.slice (some ⟨gA, 0, none⟩) l.length c) l.length (l.map Sl3.v) ∧ G2 40 4 (mkH (-1)) (mkH (-2)) l w1.heap.size gl W ∧ Vx.Own W 34 1 (.slice Ag i cg) i (gl.map Sl3.v) ∧ I2 40 4 (mkH (-1)) (mkH (-2)) w1.heap.size gl W i ⟨Ax, nx, cx⟩ k (.slice Av (nx + k) cv) ∧ Chg (inL l) w W ∧ w1.heap.size ≤ W.heap.size) (70) ?_ ?_
          · exact ⟨0, Ax, cx, by omega, by omega, g0_f3, g5_f3, g6_f3, rfl, (by first | exact rfl | exact (congrArg (Value.int .i64) (by omega))), all_f3, g_f3, gr_f3, hI0, c_f3, (by omega)⟩
          · rintro m f4 w5 ⟨k, Av, cv, hm, hk, g0_f4, g5_f4, g6_f4, g7_f4, g8_f4, all_f4, g_f4, gr_f4, I_f4, c_f4, b_f4⟩
            have hzD := c_f4.size
            refine xc_seq ?_
            refine xc_seq ?_
            refine xc_region ?_
            refine xl_op (P := Try.prog) (some 47) rfl rfl (ox_move (v := (.int .i64 ((k : Nat)))) g8_f4 ?_)
            refine xl_op (P := Try.prog) (some 48) rfl rfl (ox_lss (k := .i64) (a := ((k : Nat))) (b := 70) rfl rfl ?_)
            refine xl_nil ?_
            refine xc_if (p := ((k : Nat) : Int) < 70) rfl (fun h4 => ?_) (fun h4 => ?_)
            · skip
              refine xc_skip ?_
              refine xc_seq ?_
              refine xc_block ?_
              refine xc_region ?_
              refine xl_op (P := Try.prog) (some 51) rfl rfl (ox_move (v := (.slice Av (nx + k) cv)) g7_f4 ?_)
              refine xl_op (P := Try.prog) (some 52) rfl rfl (ox_move (v := (.int .i64 ((i : Nat)))) g6_f4 ?_)
              refine xl_op (P := Try.prog) (some 53) rfl rfl (ox_move (v := (.int .i64 ((k : Nat)))) g8_f4 ?_)
              refine xl_op (P := Try.prog) (some 54) rfl rfl (ox_mkStruct (ps := [(0, (.int .i64 ((i : Nat)))), (1, (.int .i64 ((k : Nat)))), (2, (.int .i64 (-2)))]) (cs := #[(.int .i64 ((i : Nat))), (.int .i64 ((k : Nat))), (.int .i64 (-2)), (.int .i64 0)]) tZ_40 tP_40 rfl (by kernel_rfl) ?_)
              refine xl_op (P := Try.prog) (some 55) rfl rfl (ox_mkSlice (ps := [(0, (.agg #[(.int .i64 ((i : Nat))), (.int .i64 ((k : Nat))), (.int .i64 (-2)), (.int .i64 0)]))]) (zs := #[(.int .i64 0), (.int .i64 0), (.int .i64 0), (.int .i64 0)]) (cs := #[(.int .i64 ((i : Nat))), (.int .i64 ((k : Nat))), (.int .i64 (-2)), (.int .i64 0)]) tE_34 rfl (by decide) (by kernel_rfl) (by kernel_rfl) ?_)
              intro w6 e2 z2 b1
              replace b1 : Blk w6 w5.heap.size #[(.int .i64 ((i : Nat))), (.int .i64 ((k : Nat))), (.int .i64 (-2)), (.int .i64 0)] 40 := b1
              refine xl_op (P := Try.prog) (some 56) rfl rfl (ox_append2 (n := nx + k) (g := w5.heap.size) (o := 0) (m := 1) (xs := nC ((mkH (-1)) i) nx ++ nC ((mkH (-2)) i) k) (news := (mkH (-2)) i k) rfl tE_34 rfl (by decide) (v := (.slice Av (nx + k) cv)) rfl rfl (I2.own (I_f4.ext e2)) rfl b1.all rfl (by omega) (by omega) (by omega) ?_)
              have hIb := (I_f4.ext e2)
              have hgb := (g_f4.ext e2)
              intro v1 w7 o1 at1
              have e3 := alt_chg at1
              have he3 := e3.size
              obtain ⟨hg9, hI9⟩ := I2.step hgb hIb hap (fun _ _ => rfl) hx (by omega) (by omega) o1 at1
              obtain ⟨Av1, cv1, rfl, _⟩ := hI9.own.shape
              refine xl_op (P := Try.prog) (some 7) rfl rfl (ox_assign (v := (.slice Av1 (nx + (k + 1)) cv1)) rfl ?_)
              refine xl_nil ?_
              refine xc_region ?_
              refine xl_op (P := Try.prog) (some 49) rfl rfl (ox_move (v := (.int .i64 ((k : Nat)))) g8_f4 ?_)
              refine xl_op (P := Try.prog) (some 50) rfl rfl (ox_add64 (a := ((k : Nat))) (b := 1) rfl rfl (by omega) ?_)
              refine xl_op (P := Try.prog) (some 8) rfl rfl (ox_assign (v := (.int .i64 ((k : Nat) + 1))) rfl ?_)
              refine xl_nil ?_
              have hsz0 := e2.size
              have hsz1 := e3.size
              have q2 := ((all_f4.ext e2).keep e3 (fun _k _hk => (all_f4.ext e2).ne_own (I2.own (I_f4.ext e2)) (by decide) _k _hk))
              have q3 := ((gr_f4.ext e2).keep e3 (fun _k _hk => (gr_f4.ext e2).ne_own (I2.own (I_f4.ext e2)) (by decide) _k _hk))
              exact ⟨rfl, 70 - (k + 1), by omega, k + 1, Av1, cv1, by omega, by omega, g0_f4, g5_f4, g6_f4, rfl, (by first | exact rfl | exact (congrArg (Value.int .i64) (by omega))), q2, hg9, q3, hI9, (Chg.trans (Chg.ext c_f4 e2) e3 (fun b hb hl => by rcases (I2.inl hIb hx) b hb with h9 | h9; exact h9; omega)), (by omega)⟩
            · skip
              obtain rfl : k = 70 := by omega
              refine xc_exit ?_
              refine xc_region ?_
              refine xl_op (P := Try.prog) (some 57) rfl rfl (ox_move (v := (.slice Ag i cg)) g5_f4 ?_)
              refine xl_op (P := Try.prog) (some 58) rfl rfl (ox_move (v := (.slice Av (nx + 70) cv)) g7_f4 ?_)
              refine xl_op (P := Try.prog) (some 59) rfl rfl (ox_mkSlice (ps := [(0, (.slice Av (nx + 70) cv))]) (zs := #[(.slice none 0 0)]) (cs := #[(.slice Av (nx + 70) cv)]) tE_62 rfl (by decide) (by kernel_rfl) (by kernel_rfl) ?_)
              intro w8 e4 z3 b2
              replace b2 : Blk w8 w5.heap.size #[(.slice Av (nx + 70) cv)] 34 := b2
              refine xl_op (P := Try.prog) (some 60) rfl rfl (ox_append (n := i) (g := w5.heap.size) (o := 0) (m := 1) (xs := ((gl.map Sl3.v))) (news := ([(.slice Av (nx + 70) cv)])) rfl tE_62 rfl (by decide) (v := (.slice Ag i cg)) rfl rfl (gr_f4.ext e4) rfl b2.all rfl (by omega) (by omega) ?_)
              intro v2 w9 o2 e5 at2 nil1
              have he5 := e5.size
              obtain ⟨A1, c1, rfl, hc1⟩ := o2.shape
              have low1 : ∀ _k, (Value.slice A1 (i + 1) c1).ownBlock = some _k → w.heap.size ≤ _k := fun _k _h => by rcases at2 with _e | _e <;> rw [_e] at _h; exact lo_f3 _k _h; exact (by cases _h; omega)
              refine xl_op (P := Try.prog) (some 5) rfl rfl (ox_assign (v := (.slice A1 (i + 1) c1)) rfl ?_)
              refine xl_nil ?_
              refine xc_region ?_
              refine xl_op (P := Try.prog) (some 41) rfl rfl (ox_move (v := (.int .i64 ((i : Nat)))) g6_f4 ?_)
              refine xl_op (P := Try.prog) (some 42) rfl rfl (ox_add64 (a := ((i : Nat))) (b := 1) rfl rfl (by omega) ?_)
              refine xl_op (P := Try.prog) (some 6) rfl rfl (ox_assign (v := (.int .i64 ((i : Nat) + 1))) rfl ?_)
              refine xl_nil ?_
              have hgr9 := o2
              have hsz0 := e4.size
              have hsz1 := e5.size
              have q4 := (G2.keep (g_f4.ext e4) e5 (fun _v _n _xs _h => _h.ne_own (gr_f4.ext e4) (by decide)))
              have q5 := (I2.keep (I_f4.ext e4) e5 (fun _v _n _xs _h => _h.ne_own (gr_f4.ext e4) (by decide)))
              have hg9 := G2.snoc (q4) (q5) hx hgl
              have q6 := ((all_f4.ext e4).keep e5 (fun k hk hh => by have _h1 := hAll.lt k hk; have _h2 := lo_f3 k hh; omega))
              exact ⟨rfl, l.length - (i + 1), by omega, i + 1, gl ++ [⟨Av, nx + 70, cv⟩], A1, c1, by omega, by omega, by simp [hgl], by omega, g0_f4, rfl, (by first | exact rfl | exact (congrArg (Value.int .i64) (by omega))), q6, hg9, (by rw [List.map_append]; exact hgr9), (fun k hk => low1 k (ownBlock_len hk)), (Chg.trans (Chg.ext c_f4 e4) e5 (fun b hb hl => absurd hl (by have _h := lo_f3 b hb; omega))), (by omega)⟩
        · skip
          refine xc_exit ?_
          refine xc_seq ?_
          refine xc_seq ?_
          refine xc_region ?_
          refine xl_op (P := Try.prog) (some 9) rfl rfl (ox_assign (v := (.int .i64 0)) rfl ?_)
          refine xl_nil ?_
          refine xc_block ?_
          obtain rfl : i = l.length := by omega
          have hA3 := all_f3
          have hG3 := gr_f3
          have hg3 := g_f3
          have hc3 := c_f3
          have hgl3 : gl.length = l.length := by omega
          refine xc_loopN (fun m f W => ∃ (i : Nat), m = l.length - i ∧ i ≤ l.length ∧ f 0 = (.slice A l.length c) ∧ f 5 = (.slice Ag l.length cg) ∧ f 9 = (.int .i64 ((i : Nat))) ∧ Ext w4 W) (l.length) ?_ ?_
          · exact ⟨0, by omega, by omega, g0_f3, g5_f3, (by first | exact rfl | exact (congrArg (Value.int .i64) (by omega))), (Chg.refl _ _)⟩
          · rintro m f5 w10 ⟨i, hm, hi, g0_f5, g5_f5, g9_f5, x_f5⟩
            have hzX := x_f5.size
            refine xc_seq ?_
            refine xc_seq ?_
            refine xc_region ?_
            refine xl_op (P := Try.prog) (some 61) rfl rfl (ox_move (v := (.int .i64 ((i : Nat)))) g9_f5 ?_)
            refine xl_op (P := Try.prog) (some 62) rfl rfl (ox_move (v := (.slice A l.length c)) g0_f5 ?_)
            refine xl_op (P := Try.prog) (some 63) rfl rfl (ox_len (A := A) (n := l.length) (cp := c) rfl tU_62 rfl ?_)
            refine xl_op (P := Try.prog) (some 64) rfl rfl (ox_lss (k := .i64) (a := ((i : Nat))) (b := (((l.length : Nat) : Int))) rfl rfl ?_)
            refine xl_nil ?_
            refine xc_if (p := ((i : Nat) : Int) < (((l.length : Nat) : Int))) rfl (fun h5 => ?_) (fun h5 => ?_)
            · skip
              have hil : i < l.length := by omega
              obtain ⟨⟨Ax, nx, cx⟩, hx⟩ := get_ex (l := l) (i := i) hil
              have hnx : nx ≤ 4194304 := hn i _ hx
              obtain ⟨gA, c9A, heqA, _⟩ := hAll.some_of (by omega)
              simp only [Value.slice.injEq, true_and] at heqA
              obtain ⟨rfl, rfl⟩ := heqA
              obtain ⟨⟨Ay, ny, cy⟩, hy⟩ := get_ex (l := gl) (i := i) (by omega)
              obtain ⟨hny, hoy, _⟩ := hg3.b i _ _ hx hy
              have hox := hg3.a i _ hx
              simp only at hny
              subst hny
              obtain ⟨gG, c9G, heqG, _⟩ := hG3.some_of (by omega)
              simp only [Value.slice.injEq, true_and] at heqG
              obtain ⟨rfl, rfl⟩ := heqG
              refine xc_skip ?_
              refine xc_seq ?_
              refine xc_block ?_
              refine xc_seq ?_
              refine xc_region ?_
              refine xl_op (P := Try.prog) (some 67) rfl rfl (ox_move (v := (.slice (some ⟨gA, 0, none⟩) l.length c)) g0_f5 ?_)
              refine xl_op (P := Try.prog) (some 68) rfl rfl (ox_move (v := (.int .i64 ((i : Nat)))) g9_f5 ?_)
              refine xl_op (P := Try.prog) (some 69) rfl rfl (ox_indexAddr (b := gA) (o := 0) (i := ((i : Nat))) tE_62 rfl rfl (by omega) (by omega) ?_)
              refine xl_op (P := Try.prog) (some 70) rfl rfl (ox_load (v := (.slice Ax nx cx)) tA_34 rfl (Ext.cell (Own.rowv hA3 hx) x_f5) ?_)
              refine xl_op (P := Try.prog) (some 71) rfl rfl (ox_len (A := Ax) (n := nx) (cp := cx) rfl tU_34 rfl ?_)
              refine xl_op (P := Try.prog) (some 10) rfl rfl (ox_assign (v := (.int .i64 (((nx : Nat) : Int)))) rfl ?_)
              refine xl_nil ?_
              refine xc_seq ?_
              refine xc_seq ?_
              refine xc_region ?_
              refine xl_op (P := Try.prog) (some 11) rfl rfl (ox_assign (v := (.int .i64 0)) rfl ?_)
              refine xl_nil ?_
              refine xc_block ?_
              refine xc_loopN (fun m f W => ∃ (k : Nat), m = nx - k ∧ k ≤ nx ∧ f 0 = (.slice (some ⟨gA, 0, none⟩) l.length c) ∧ f 5 = (.slice (some ⟨gG, 0, none⟩) l.length cg) ∧ f 9 = (.int .i64 ((i : Nat))) ∧ f 10 = (.int .i64 (((nx : Nat) : Int))) ∧ f 11 = (.int .i64 ((k : Nat))) ∧ Ext w4 W) (nx) ?_ ?_
              · exact ⟨0, by omega, by omega, g0_f5, g5_f5, g9_f5, rfl, (by first | exact rfl | exact (congrArg (Value.int .i64) (by omega))), x_f5⟩
              · rintro m f6 w11 ⟨k, hm, hk, g0_f6, g5_f6, g9_f6, g10_f6, g11_f6, x_f6⟩
                have hzY := x_f6.size
                refine xc_seq ?_
                refine xc_seq ?_
                refine xc_region ?_
                refine xl_op (P := Try.prog) (some 72) rfl rfl (ox_move (v := (.int .i64 ((k : Nat)))) g11_f6 ?_)
                refine xl_op (P := Try.prog) (some 73) rfl rfl (ox_move (v := (.int .i64 (((nx : Nat) : Int)))) g10_f6 ?_)
                refine xl_op (P := Try.prog) (some 74) rfl rfl (ox_lss (k := .i64) (a := ((k : Nat))) (b := (((nx : Nat) : Int))) rfl rfl ?_)
                refine xl_nil ?_
                refine xc_if (p := ((k : Nat) : Int) < (((nx : Nat) : Int))) rfl (fun h6 => ?_) (fun h6 => ?_)
                · skip
                  have hRgx : Vx.Own w4 40 4 (.slice Ax nx cx) nx (nC ((mkH (-1)) i) nx) := hox
                  obtain ⟨gx, c9gx, heqgx, _⟩ := hRgx.some_of (by omega)
                  simp only [Value.slice.injEq, true_and] at heqgx
                  obtain ⟨rfl, rfl⟩ := heqgx
                  have hRgy : Vx.Own w4 40 4 (.slice Ay (nx + 70) cy) (nx + 70) (nC ((mkH (-1)) i) nx ++ nC ((mkH (-2)) i) 70) := hoy
                  obtain ⟨gy, c9gy, heqgy, _⟩ := hRgy.some_of (by omega)
                  simp only [Value.slice.injEq, true_and] at heqgy
                  obtain ⟨rfl, rfl⟩ := heqgy
                  have hc1 := Own.nc hRgx (fun _ => rfl) (k := k) (by omega)
                  have hc2 := Own.nc1 hRgy (fun _ => rfl) (k := k) (by omega)
                  refine xc_skip ?_
                  refine xc_seq ?_
                  refine xc_block ?_
                  refine xc_seq ?_
                  refine xc_regionE [] (fun W_ => Chg (fun _ => False) w11 W_) hmix ?_
                  intro w12 e6 z4
                  have hS2 : Chg (fun _ => False) w11 w12 := Ext.to e6
                  refine xd_pure 0 (some 77) rfl rfl (by kernel_rfl) (v := (.slice (some ⟨gA, 0, none⟩) l.length c)) (.inl ⟨rfl, fun W_ hW_ => ox_move (v := (.slice (some ⟨gA, 0, none⟩) l.length c)) g0_f6 ⟨rfl, rfl⟩⟩) ?_
                  refine xd_pure 1 (some 78) rfl rfl (by kernel_rfl) (v := (.int .i64 ((i : Nat)))) (.inl ⟨rfl, fun W_ hW_ => ox_move (v := (.int .i64 ((i : Nat)))) g9_f6 ⟨rfl, rfl⟩⟩) ?_
                  refine xd_pure 2 (some 79) rfl rfl (by kernel_rfl) (v := (.pointer (some ⟨gA, 0 + i * 1, none⟩))) (.inl ⟨rfl, fun W_ hW_ => ox_indexAddr (b := gA) (o := 0) (i := ((i : Nat))) tE_62 rfl rfl (by omega) (by omega) ⟨rfl, rfl⟩⟩) ?_
                  refine xd_take 3 (some 80) rfl rfl (by kernel_rfl) (v := (.slice (some ⟨gx, 0, none⟩) nx cx)) (.inl ⟨rfl, fun W_ hW_ => ox_load (v := (.slice (some ⟨gx, 0, none⟩) nx cx)) tA_34 rfl (Ext.cell (Own.rowv hA3 hx) (Ext.trans x_f6 hW_)) ⟨rfl, rfl⟩⟩) hS2 ?_
                  refine xd_pure 4 (some 81) rfl rfl (by kernel_rfl) (v := (.int .i64 ((k : Nat)))) (.inl ⟨rfl, fun W_ hW_ => ox_move (v := (.int .i64 ((k : Nat)))) g11_f6 ⟨rfl, rfl⟩⟩) ?_
                  refine xd_pure 5 (some 82) rfl rfl (by kernel_rfl) (v := (.pointer (some ⟨gx, 0 + k * 4, none⟩))) (.inl ⟨rfl, fun W_ hW_ => ox_indexAddr (b := gx) (o := 0) (i := ((k : Nat))) tE_34 rfl rfl (by omega) (by omega) ⟨rfl, rfl⟩⟩) ?_
                  refine xd_take 6 (some 83) rfl rfl (by kernel_rfl) (v := (.agg #[(.int .i64 ((i : Nat))), (.int .i64 ((k : Nat))), (.int .i64 (-1)), (.int .i64 0)])) (.inl ⟨rfl, fun W_ hW_ => ox_loadN (vs := [(.int .i64 ((i : Nat))), (.int .i64 ((k : Nat))), (.int .i64 (-1)), (.int .i64 0)]) tA_40 tS_40 rfl rfl (CellsL.keep (Ext.trans x_f6 hW_) not_false hc1) ⟨rfl, rfl⟩⟩) hS2 ?_
                  refine xd_pure 7 (some 84) rfl rfl (by kernel_rfl) (v := (.int .i64 ((i : Nat)))) (.inl ⟨rfl, fun W_ hW_ => ox_move (v := (.int .i64 ((i : Nat)))) g9_f6 ⟨rfl, rfl⟩⟩) ?_
                  refine xd_pure 8 (some 85) rfl rfl (by kernel_rfl) (v := (.int .i64 ((k : Nat)))) (.inl ⟨rfl, fun W_ hW_ => ox_move (v := (.int .i64 ((k : Nat)))) g11_f6 ⟨rfl, rfl⟩⟩) ?_
                  refine xd_pure 9 (some 86) rfl rfl (by kernel_rfl) (v := (.agg #[(.int .i64 ((i : Nat))), (.int .i64 ((k : Nat))), (.int .i64 (-1)), (.int .i64 0)])) (.inl ⟨rfl, fun W_ hW_ => ox_mkStruct (ps := [(0, (.int .i64 ((i : Nat)))), (1, (.int .i64 ((k : Nat)))), (2, (.int .i64 (-1)))]) (cs := #[(.int .i64 ((i : Nat))), (.int .i64 ((k : Nat))), (.int .i64 (-1)), (.int .i64 0)]) tZ_40 tP_40 rfl (by kernel_rfl) ⟨rfl, rfl⟩⟩) ?_
                  refine xd_pure 10 (some 87) rfl rfl (by kernel_rfl) (v := (.bool (!decide ((((i : Nat) : Int) = ((i : Nat)) ∧ ((k : Nat) : Int) = ((k : Nat)) ∧ (-1 : Int) = (-1) ∧ (0 : Int) = 0))))) (.inl ⟨rfl, fun W_ hW_ => ox_neqF (xs := [(.int .i64 ((i : Nat))), (.int .i64 ((k : Nat))), (.int .i64 (-1)), (.int .i64 0)]) (ys := [(.int .i64 ((i : Nat))), (.int .i64 ((k : Nat))), (.int .i64 (-1)), (.int .i64 0)]) (p := (((i : Nat) : Int) = ((i : Nat)) ∧ ((k : Nat) : Int) = ((k : Nat)) ∧ (-1 : Int) = (-1) ∧ (0 : Int) = 0)) fS_40 rfl rfl rfl rfl (by simp) ⟨rfl, rfl⟩⟩) ?_
                  refine xd_pure 11 (some 88) rfl rfl (by kernel_rfl) (v := (.bool (!decide ((((i : Nat) : Int) = ((i : Nat)) ∧ ((k : Nat) : Int) = ((k : Nat)) ∧ (-1 : Int) = (-1) ∧ (0 : Int) = 0))))) (.inl ⟨rfl, fun W_ hW_ => ox_move (v := (.bool (!decide ((((i : Nat) : Int) = ((i : Nat)) ∧ ((k : Nat) : Int) = ((k : Nat)) ∧ (-1 : Int) = (-1) ∧ (0 : Int) = 0))))) rfl ⟨rfl, rfl⟩⟩) ?_
                  refine xd_pure 12 (some 89) rfl rfl (by kernel_rfl) (v := (.slice (some ⟨gG, 0, none⟩) l.length cg)) (.inl ⟨(wanted_of (j := 11) (b := false) rfl (congrArg some (by simp : (!decide ((((i : Nat) : Int) = ((i : Nat)) ∧ ((k : Nat) : Int) = ((k : Nat)) ∧ (-1 : Int) = (-1) ∧ (0 : Int) = 0))) = false))), fun W_ hW_ => ox_move (v := (.slice (some ⟨gG, 0, none⟩) l.length cg)) g5_f6 ⟨rfl, rfl⟩⟩) ?_
                  refine xd_pure 13 (some 90) rfl rfl (by kernel_rfl) (v := (.int .i64 ((i : Nat)))) (.inl ⟨(wanted_of (j := 11) (b := false) rfl (congrArg some (by simp : (!decide ((((i : Nat) : Int) = ((i : Nat)) ∧ ((k : Nat) : Int) = ((k : Nat)) ∧ (-1 : Int) = (-1) ∧ (0 : Int) = 0))) = false))), fun W_ hW_ => ox_move (v := (.int .i64 ((i : Nat)))) g9_f6 ⟨rfl, rfl⟩⟩) ?_
                  refine xd_pure 14 (some 91) rfl rfl (by kernel_rfl) (v := (.pointer (some ⟨gG, 0 + i * 1, none⟩))) (.inl ⟨(wanted_of (j := 11) (b := false) rfl (congrArg some (by simp : (!decide ((((i : Nat) : Int) = ((i : Nat)) ∧ ((k : Nat) : Int) = ((k : Nat)) ∧ (-1 : Int) = (-1) ∧ (0 : Int) = 0))) = false))), fun W_ hW_ => ox_indexAddr (b := gG) (o := 0) (i := ((i : Nat))) tE_62 rfl rfl (by omega) (by omega) ⟨rfl, rfl⟩⟩) ?_
                  refine xd_take 15 (some 92) rfl rfl (by kernel_rfl) (v := (.slice (some ⟨gy, 0, none⟩) (nx + 70) cy)) (.inl ⟨(wanted_of (j := 11) (b := false) rfl (congrArg some (by simp : (!decide ((((i : Nat) : Int) = ((i : Nat)) ∧ ((k : Nat) : Int) = ((k : Nat)) ∧ (-1 : Int) = (-1) ∧ (0 : Int) = 0))) = false))), fun W_ hW_ => ox_load (v := (.slice (some ⟨gy, 0, none⟩) (nx + 70) cy)) tA_34 rfl (Ext.cell (Own.rowv hG3 hy) (Ext.trans x_f6 hW_)) ⟨rfl, rfl⟩⟩) hS2 ?_
                  refine xd_pure 16 (some 93) rfl rfl (by kernel_rfl) (v := (.int .i64 ((k : Nat)))) (.inl ⟨(wanted_of (j := 11) (b := false) rfl (congrArg some (by simp : (!decide ((((i : Nat) : Int) = ((i : Nat)) ∧ ((k : Nat) : Int) = ((k : Nat)) ∧ (-1 : Int) = (-1) ∧ (0 : Int) = 0))) = false))), fun W_ hW_ => ox_move (v := (.int .i64 ((k : Nat)))) g11_f6 ⟨rfl, rfl⟩⟩) ?_
                  refine xd_pure 17 (some 94) rfl rfl (by kernel_rfl) (v := (.pointer (some ⟨gy, 0 + k * 4, none⟩))) (.inl ⟨(wanted_of (j := 11) (b := false) rfl (congrArg some (by simp : (!decide ((((i : Nat) : Int) = ((i : Nat)) ∧ ((k : Nat) : Int) = ((k : Nat)) ∧ (-1 : Int) = (-1) ∧ (0 : Int) = 0))) = false))), fun W_ hW_ => ox_indexAddr (b := gy) (o := 0) (i := ((k : Nat))) tE_34 rfl rfl (by omega) (by omega) ⟨rfl, rfl⟩⟩) ?_
                  refine xd_take 18 (some 95) rfl rfl (by kernel_rfl) (v := (.agg #[(.int .i64 ((i : Nat))), (.int .i64 ((k : Nat))), (.int .i64 (-1)), (.int .i64 0)])) (.inl ⟨(wanted_of (j := 11) (b := false) rfl (congrArg some (by simp : (!decide ((((i : Nat) : Int) = ((i : Nat)) ∧ ((k : Nat) : Int) = ((k : Nat)) ∧ (-1 : Int) = (-1) ∧ (0 : Int) = 0))) = false))), fun W_ hW_ => ox_loadN (vs := [(.int .i64 ((i : Nat))), (.int .i64 ((k : Nat))), (.int .i64 (-1)), (.int .i64 0)]) tA_40 tS_40 rfl rfl (CellsL.keep (Ext.trans x_f6 hW_) not_false hc2) ⟨rfl, rfl⟩⟩) hS2 ?_
                  refine xd_pure 19 (some 96) rfl rfl (by kernel_rfl) (v := (.slice (some ⟨gA, 0, none⟩) l.length c)) (.inl ⟨(wanted_of (j := 11) (b := false) rfl (congrArg some (by simp : (!decide ((((i : Nat) : Int) = ((i : Nat)) ∧ ((k : Nat) : Int) = ((k : Nat)) ∧ (-1 : Int) = (-1) ∧ (0 : Int) = 0))) = false))), fun W_ hW_ => ox_move (v := (.slice (some ⟨gA, 0, none⟩) l.length c)) g0_f6 ⟨rfl, rfl⟩⟩) ?_
                  refine xd_pure 20 (some 97) rfl rfl (by kernel_rfl) (v := (.int .i64 ((i : Nat)))) (.inl ⟨(wanted_of (j := 11) (b := false) rfl (congrArg some (by simp : (!decide ((((i : Nat) : Int) = ((i : Nat)) ∧ ((k : Nat) : Int) = ((k : Nat)) ∧ (-1 : Int) = (-1) ∧ (0 : Int) = 0))) = false))), fun W_ hW_ => ox_move (v := (.int .i64 ((i : Nat)))) g9_f6 ⟨rfl, rfl⟩⟩) ?_
                  refine xd_pure 21 (some 98) rfl rfl (by kernel_rfl) (v := (.pointer (some ⟨gA, 0 + i * 1, none⟩))) (.inl ⟨(wanted_of (j := 11) (b := false) rfl (congrArg some (by simp : (!decide ((((i : Nat) : Int) = ((i : Nat)) ∧ ((k : Nat) : Int) = ((k : Nat)) ∧ (-1 : Int) = (-1) ∧ (0 : Int) = 0))) = false))), fun W_ hW_ => ox_indexAddr (b := gA) (o := 0) (i := ((i : Nat))) tE_62 rfl rfl (by omega) (by omega) ⟨rfl, rfl⟩⟩) ?_
                  refine xd_take 22 (some 99) rfl rfl (by kernel_rfl) (v := (.slice (some ⟨gx, 0, none⟩) nx cx)) (.inl ⟨(wanted_of (j := 11) (b := false) rfl (congrArg some (by simp : (!decide ((((i : Nat) : Int) = ((i : Nat)) ∧ ((k : Nat) : Int) = ((k : Nat)) ∧ (-1 : Int) = (-1) ∧ (0 : Int) = 0))) = false))), fun W_ hW_ => ox_load (v := (.slice (some ⟨gx, 0, none⟩) nx cx)) tA_34 rfl (Ext.cell (Own.rowv hA3 hx) (Ext.trans x_f6 hW_)) ⟨rfl, rfl⟩⟩) hS2 ?_
                  refine xd_pure 23 (some 100) rfl rfl (by kernel_rfl) (v := (.int .i64 ((k : Nat)))) (.inl ⟨(wanted_of (j := 11) (b := false) rfl (congrArg some (by simp : (!decide ((((i : Nat) : Int) = ((i : Nat)) ∧ ((k : Nat) : Int) = ((k : Nat)) ∧ (-1 : Int) = (-1) ∧ (0 : Int) = 0))) = false))), fun W_ hW_ => ox_move (v := (.int .i64 ((k : Nat)))) g11_f6 ⟨rfl, rfl⟩⟩) ?_
                  refine xd_pure 24 (some 101) rfl rfl (by kernel_rfl) (v := (.pointer (some ⟨gx, 0 + k * 4, none⟩))) (.inl ⟨(wanted_of (j := 11) (b := false) rfl (congrArg some (by simp : (!decide ((((i : Nat) : Int) = ((i : Nat)) ∧ ((k : Nat) : Int) = ((k : Nat)) ∧ (-1 : Int) = (-1) ∧ (0 : Int) = 0))) = false))), fun W_ hW_ => ox_indexAddr (b := gx) (o := 0) (i := ((k : Nat))) tE_34 rfl rfl (by omega) (by omega) ⟨rfl, rfl⟩⟩) ?_
                  refine xd_take 25 (some 102) rfl rfl (by kernel_rfl) (v := (.agg #[(.int .i64 ((i : Nat))), (.int .i64 ((k : Nat))), (.int .i64 (-1)), (.int .i64 0)])) (.inl ⟨(wanted_of (j := 11) (b := false) rfl (congrArg some (by simp : (!decide ((((i : Nat) : Int) = ((i : Nat)) ∧ ((k : Nat) : Int) = ((k : Nat)) ∧ (-1 : Int) = (-1) ∧ (0 : Int) = 0))) = false))), fun W_ hW_ => ox_loadN (vs := [(.int .i64 ((i : Nat))), (.int .i64 ((k : Nat))), (.int .i64 (-1)), (.int .i64 0)]) tA_40 tS_40 rfl rfl (CellsL.keep (Ext.trans x_f6 hW_) not_false hc1) ⟨rfl, rfl⟩⟩) hS2 ?_
                  refine xd_pure 26 (some 103) rfl rfl (by kernel_rfl) (v := (.bool (!decide ((((i : Nat) : Int) = ((i : Nat)) ∧ ((k : Nat) : Int) = ((k : Nat)) ∧ (-1 : Int) = (-1) ∧ (0 : Int) = 0))))) (.inl ⟨(wanted_of (j := 11) (b := false) rfl (congrArg some (by simp : (!decide ((((i : Nat) : Int) = ((i : Nat)) ∧ ((k : Nat) : Int) = ((k : Nat)) ∧ (-1 : Int) = (-1) ∧ (0 : Int) = 0))) = false))), fun W_ hW_ => ox_neqF (xs := [(.int .i64 ((i : Nat))), (.int .i64 ((k : Nat))), (.int .i64 (-1)), (.int .i64 0)]) (ys := [(.int .i64 ((i : Nat))), (.int .i64 ((k : Nat))), (.int .i64 (-1)), (.int .i64 0)]) (p := (((i : Nat) : Int) = ((i : Nat)) ∧ ((k : Nat) : Int) = ((k : Nat)) ∧ (-1 : Int) = (-1) ∧ (0 : Int) = 0)) fS_40 rfl rfl rfl rfl (by simp) ⟨rfl, rfl⟩⟩) ?_
                  refine xd_pure 27 (some 104) rfl rfl (by kernel_rfl) (v := (.bool (!decide ((((i : Nat) : Int) = ((i : Nat)) ∧ ((k : Nat) : Int) = ((k : Nat)) ∧ (-1 : Int) = (-1) ∧ (0 : Int) = 0))))) (.inl ⟨rfl, fun W_ hW_ => ox_pick_f (v := (.bool (!decide ((((i : Nat) : Int) = ((i : Nat)) ∧ ((k : Nat) : Int) = ((k : Nat)) ∧ (-1 : Int) = (-1) ∧ (0 : Int) = 0))))) (congrArg Value.bool (by simp : (!decide ((((i : Nat) : Int) = ((i : Nat)) ∧ ((k : Nat) : Int) = ((k : Nat)) ∧ (-1 : Int) = (-1) ∧ (0 : Int) = 0))) = false)) rfl ⟨rfl, rfl⟩⟩) ?_
                  refine xd_done (by kernel_rfl) ?_ _
                  refine xc_cond_f (congrArg Value.bool (by simp : (!decide ((((i : Nat) : Int) = ((i : Nat)) ∧ ((k : Nat) : Int) = ((k : Nat)) ∧ (-1 : Int) = (-1) ∧ (0 : Int) = 0))) = false)) ?_
                  refine xc_skip ?_
                  refine xc_region ?_
                  refine xl_op (P := Try.prog) (some 75) rfl rfl (ox_move (v := (.int .i64 ((k : Nat)))) g11_f6 ?_)
                  refine xl_op (P := Try.prog) (some 76) rfl rfl (ox_add64 (a := ((k : Nat))) (b := 1) rfl rfl (by omega) ?_)
                  refine xl_op (P := Try.prog) (some 11) rfl rfl (ox_assign (v := (.int .i64 ((k : Nat) + 1))) rfl ?_)
                  refine xl_nil ?_
                  have hsz0 := e6.size
                  exact ⟨rfl, nx - (k + 1), by omega, k + 1, by omega, by omega, g0_f6, g5_f6, g9_f6, g10_f6, (by first | exact rfl | exact (congrArg (Value.int .i64) (by omega))), (Ext.trans x_f6 e6)⟩
                · skip
                  refine xc_exit ?_
                  refine xc_seq ?_
                  refine xc_region ?_
                  refine xl_op (P := Try.prog) (some 12) rfl rfl (ox_assign (v := (.int .i64 0)) rfl ?_)
                  refine xl_nil ?_
                  refine xc_block ?_
                  refine xc_loopN (fun m f W => ∃ (k : Nat), m = 70 - k ∧ k ≤ 70 ∧ f 0 = (.slice (some ⟨gA, 0, none⟩) l.length c) ∧ f 5 = (.slice (some ⟨gG, 0, none⟩) l.length cg) ∧ f 9 = (.int .i64 ((i : Nat))) ∧ f 10 = (.int .i64 (((nx : Nat) : Int))) ∧ f 12 = (.int .i64 ((k : Nat))) ∧ Ext w4 W) (70) ?_ ?_
                  · exact ⟨0, by omega, by omega, g0_f6, g5_f6, g9_f6, g10_f6, (by first | exact rfl | exact (congrArg (Value.int .i64) (by omega))), x_f6⟩
                  · rintro m f7 w13 ⟨k, hm, hk, g0_f7, g5_f7, g9_f7, g10_f7, g12_f7, x_f7⟩
                    have hzY := x_f7.size
                    refine xc_seq ?_
                    refine xc_seq ?_
                    refine xc_region ?_
                    refine xl_op (P := Try.prog) (some 105) rfl rfl (ox_move (v := (.int .i64 ((k : Nat)))) g12_f7 ?_)
                    refine xl_op (P := Try.prog) (some 106) rfl rfl (ox_lss (k := .i64) (a := ((k : Nat))) (b := 70) rfl rfl ?_)
                    refine xl_nil ?_
                    refine xc_if (p := ((k : Nat) : Int) < 70) rfl (fun h7 => ?_) (fun h7 => ?_)
                    · skip
                      have hRgy : Vx.Own w4 40 4 (.slice Ay (nx + 70) cy) (nx + 70) (nC ((mkH (-1)) i) nx ++ nC ((mkH (-2)) i) 70) := hoy
                      obtain ⟨gy, c9gy, heqgy, _⟩ := hRgy.some_of (by omega)
                      simp only [Value.slice.injEq, true_and] at heqgy
                      obtain ⟨rfl, rfl⟩ := heqgy
                      have hc2 := Own.nc2 hRgy (fun _ => rfl) (fun _ => rfl) (k := k) (by omega)
                      refine xc_skip ?_
                      refine xc_seq ?_
                      refine xc_block ?_
                      refine xc_seq ?_
                      refine xc_region ?_
                      refine xl_op (P := Try.prog) (some 109) rfl rfl (ox_move (v := (.slice (some ⟨gG, 0, none⟩) l.length cg)) g5_f7 ?_)
                      refine xl_op (P := Try.prog) (some 110) rfl rfl (ox_move (v := (.int .i64 ((i : Nat)))) g9_f7 ?_)
                      refine xl_op (P := Try.prog) (some 111) rfl rfl (ox_indexAddr (b := gG) (o := 0) (i := ((i : Nat))) tE_62 rfl rfl (by omega) (by omega) ?_)
                      refine xl_op (P := Try.prog) (some 112) rfl rfl (ox_load (v := (.slice (some ⟨gy, 0, none⟩) (nx + 70) cy)) tA_34 rfl (Ext.cell (Own.rowv hG3 hy) x_f7) ?_)
                      refine xl_op (P := Try.prog) (some 113) rfl rfl (ox_move (v := (.int .i64 (((nx : Nat) : Int)))) g10_f7 ?_)
                      refine xl_op (P := Try.prog) (some 114) rfl rfl (ox_move (v := (.int .i64 ((k : Nat)))) g12_f7 ?_)
                      refine xl_op (P := Try.prog) (some 115) rfl rfl (ox_add64 (a := (((nx : Nat) : Int))) (b := ((k : Nat))) rfl rfl (by omega) ?_)
                      refine xl_op (P := Try.prog) (some 116) rfl rfl (ox_indexAddr (b := gy) (o := 0) (i := (((nx : Nat) : Int) + ((k : Nat)))) tE_34 rfl rfl (by omega) (by omega) ?_)
                      refine xl_op (P := Try.prog) (some 117) rfl rfl (ox_loadN (vs := [(.int .i64 ((i : Nat))), (.int .i64 ((k : Nat))), (.int .i64 (-2)), (.int .i64 0)]) tA_40 tS_40 rfl rfl (CellsL.keep x_f7 not_false hc2) ?_)
                      refine xl_op (P := Try.prog) (some 118) rfl rfl (ox_move (v := (.int .i64 ((i : Nat)))) g9_f7 ?_)
                      refine xl_op (P := Try.prog) (some 119) rfl rfl (ox_move (v := (.int .i64 ((k : Nat)))) g12_f7 ?_)
                      refine xl_op (P := Try.prog) (some 120) rfl rfl (ox_mkStruct (ps := [(0, (.int .i64 ((i : Nat)))), (1, (.int .i64 ((k : Nat)))), (2, (.int .i64 (-2)))]) (cs := #[(.int .i64 ((i : Nat))), (.int .i64 ((k : Nat))), (.int .i64 (-2)), (.int .i64 0)]) tZ_40 tP_40 rfl (by kernel_rfl) ?_)
                      refine xl_op (P := Try.prog) (some 121) rfl rfl (ox_neqF (xs := [(.int .i64 ((i : Nat))), (.int .i64 ((k : Nat))), (.int .i64 (-2)), (.int .i64 0)]) (ys := [(.int .i64 ((i : Nat))), (.int .i64 ((k : Nat))), (.int .i64 (-2)), (.int .i64 0)]) (p := (((i : Nat) : Int) = ((i : Nat)) ∧ ((k : Nat) : Int) = ((k : Nat)) ∧ (-2 : Int) = (-2) ∧ (0 : Int) = 0)) fS_40 rfl rfl rfl rfl (by simp) ?_)
                      refine xl_nil ?_
                      refine xc_cond_f (congrArg Value.bool (by simp : (!decide ((((i : Nat) : Int) = ((i : Nat)) ∧ ((k : Nat) : Int) = ((k : Nat)) ∧ (-2 : Int) = (-2) ∧ (0 : Int) = 0))) = false)) ?_
                      refine xc_skip ?_
                      refine xc_region ?_
                      refine xl_op (P := Try.prog) (some 107) rfl rfl (ox_move (v := (.int .i64 ((k : Nat)))) g12_f7 ?_)
                      refine xl_op (P := Try.prog) (some 108) rfl rfl (ox_add64 (a := ((k : Nat))) (b := 1) rfl rfl (by omega) ?_)
                      refine xl_op (P := Try.prog) (some 12) rfl rfl (ox_assign (v := (.int .i64 ((k : Nat) + 1))) rfl ?_)
                      refine xl_nil ?_
                      exact ⟨rfl, 70 - (k + 1), by omega, k + 1, by omega, by omega, g0_f7, g5_f7, g9_f7, g10_f7, (by first | exact rfl | exact (congrArg (Value.int .i64) (by omega))), x_f7⟩
                    · skip
                      refine xc_exit ?_
                      refine xc_region ?_
                      refine xl_op (P := Try.prog) (some 65) rfl rfl (ox_move (v := (.int .i64 ((i : Nat)))) g9_f7 ?_)
                      refine xl_op (P := Try.prog) (some 66) rfl rfl (ox_add64 (a := ((i : Nat))) (b := 1) rfl rfl (by omega) ?_)
                      refine xl_op (P := Try.prog) (some 9) rfl rfl (ox_assign (v := (.int .i64 ((i : Nat) + 1))) rfl ?_)
                      refine xl_nil ?_
                      exact ⟨rfl, l.length - (i + 1), by omega, i + 1, by omega, by omega, g0_f7, g5_f7, (by first | exact rfl | exact (congrArg (Value.int .i64) (by omega))), x_f7⟩
            · skip
              refine xc_exit ?_
              refine xc_seq ?_
              refine xc_region ?_
              refine xl_op (P := Try.prog) (some 2) rfl rfl (ox_assign (v := (.bool true)) rfl ?_)
              refine xl_nil ?_
              refine xc_ret ?_
              change leaves _ _ _ _ _ _ _
              refine leaves_nil (n := 122) (rs := [.tmp 2]) (vs := [(.bool true)]) rfl ⟨⟨by decide, rfl⟩, trivial⟩ ?_
              exact ⟨rfl, Chg.ext hc3 x_f5⟩

theorem grownOps_calls (l : List Sl3) (A : Option Addr) (c : Nat) (w : World) (hAll : Vx.Own w 54 1 (.slice A l.length c) l.length (l.map Sl3.v)) (hg0 : G1 88 9 (mkO (-1)) l w 0 0) (hap : Apart l) (hl : l.length ≤ 64) (hn : ∀ (j : Nat) (x : Sl3), l[j]? = some x → x.n ≤ 4194304) :
    Calls Try.prog 31 #[(.slice A l.length c)] w (Ret (fun v w' => v = .bool true ∧ Chg (inL l) w w')) := by
  refine calls_xc (n := 122) (f := fun s_ => [(.slice A l.length c)].getD s_ undef) Try.func31 rfl rfl (by simp) (fun s_ => by simp) ?_
  refine xc_seq ?_
  refine xc_region ?_
  refine xl_op (P := Try.prog) (some 2) rfl rfl (ox_assign (v := (.bool false)) rfl ?_)
  refine xl_nil ?_
  refine xc_seq ?_
  refine xc_seq ?_
  refine xc_region ?_
  refine xl_op (P := Try.prog) (some 3) rfl rfl (ox_assign (v := (.int .i64 0)) rfl ?_)
  refine xl_nil ?_
  refine xc_block ?_
  refine xc_loopN (fun m f W => ∃ (i : Nat), m = l.length - i ∧ i ≤ l.length ∧ f 0 = (.slice A l.length c) ∧ f 3 = (.int .i64 ((i : Nat))) ∧ Vx.Own W 54 1 (.slice A l.length c) l.length (l.map Sl3.v) ∧ G1 88 9 (mkO (-1)) l W i 0 ∧ Chg (inL l) w W) (l.length) ?_ ?_
  · exact ⟨0, by omega, by omega, rfl, (by first | exact rfl | exact (congrArg (Value.int .i64) (by omega))), hAll, hg0, (Chg.refl (inL l) w)⟩
  · rintro m f1 w1 ⟨i, hm, hi, g0_f1, g3_f1, all_f1, g_f1, c_f1⟩
    have hzC := c_f1.size
    refine xc_seq ?_
    refine xc_seq ?_
    refine xc_region ?_
    refine xl_op (P := Try.prog) (some 13) rfl rfl (ox_move (v := (.int .i64 ((i : Nat)))) g3_f1 ?_)
    refine xl_op (P := Try.prog) (some 14) rfl rfl (ox_move (v := (.slice A l.length c)) g0_f1 ?_)
    refine xl_op (P := Try.prog) (some 15) rfl rfl (ox_len (A := A) (n := l.length) (cp := c) rfl tU_63 rfl ?_)
    refine xl_op (P := Try.prog) (some 16) rfl rfl (ox_lss (k := .i64) (a := ((i : Nat))) (b := (((l.length : Nat) : Int))) rfl rfl ?_)
    refine xl_nil ?_
    refine xc_if (p := ((i : Nat) : Int) < (((l.length : Nat) : Int))) rfl (fun h1 => ?_) (fun h1 => ?_)
    · skip
      have hil : i < l.length := by omega
      obtain ⟨⟨Ax, nx, cx⟩, hx⟩ := get_ex (l := l) (i := i) hil
      have hnx : nx ≤ 4194304 := hn i _ hx
      obtain ⟨gA, c9A, heqA, _⟩ := hAll.some_of (by omega)
      simp only [Value.slice.injEq, true_and] at heqA
      obtain ⟨rfl, rfl⟩ := heqA
      refine xc_skip ?_
      refine xc_seq ?_
      refine xc_block ?_
      refine xc_seq ?_
      refine xc_region ?_
      refine xl_op (P := Try.prog) (some 4) rfl rfl (ox_assign (v := (.int .i64 0)) rfl ?_)
      refine xl_nil ?_
      refine xc_block ?_
      refine xc_loopN (fun m f W => ∃ (k : Nat), m = nx - k ∧ k ≤ nx ∧ f 0 = (.slice (some ⟨gA, 0, none⟩) l.length c) ∧ f 3 = (.int .i64 ((i : Nat))) ∧ f 4 = (.int .i64 ((k : Nat))) ∧ Vx.Own W 54 1 (.slice (some ⟨gA, 0, none⟩) l.length c) l.length (l.map Sl3.v) ∧ G1 88 9 (mkO (-1)) l W i k ∧ Chg (inL l) w W) (nx) ?_ ?_
      · exact ⟨0, by omega, by omega, g0_f1, g3_f1, (by first | exact rfl | exact (congrArg (Value.int .i64) (by omega))), all_f1, g_f1, c_f1⟩
      · rintro m f2 w2 ⟨k, hm, hk, g0_f2, g3_f2, g4_f2, all_f2, g_f2, c_f2⟩
        have hzD := c_f2.size
        refine xc_seq ?_
        refine xc_seq ?_
        refine xc_region ?_
        refine xl_op (P := Try.prog) (some 19) rfl rfl (ox_move (v := (.int .i64 ((k : Nat)))) g4_f2 ?_)
        refine xl_op (P := Try.prog) (some 20) rfl rfl (ox_move (v := (.slice (some ⟨gA, 0, none⟩) l.length c)) g0_f2 ?_)
        refine xl_op (P := Try.prog) (some 21) rfl rfl (ox_move (v := (.int .i64 ((i : Nat)))) g3_f2 ?_)
        refine xl_op (P := Try.prog) (some 22) rfl rfl (ox_indexAddr (b := gA) (o := 0) (i := ((i : Nat))) tE_63 rfl rfl (by omega) (by omega) ?_)
        refine xl_op (P := Try.prog) (some 23) rfl rfl (ox_load (v := (.slice Ax nx cx)) tA_54 rfl (Own.rowv all_f2 hx) ?_)
        refine xl_op (P := Try.prog) (some 24) rfl rfl (ox_len (A := Ax) (n := nx) (cp := cx) rfl tU_54 rfl ?_)
        refine xl_op (P := Try.prog) (some 25) rfl rfl (ox_lss (k := .i64) (a := ((k : Nat))) (b := (((nx : Nat) : Int))) rfl rfl ?_)
        refine xl_nil ?_
        refine xc_if (p := ((k : Nat) : Int) < (((nx : Nat) : Int))) rfl (fun h2 => ?_) (fun h2 => ?_)
        · skip
          obtain ⟨cs, hown, _, htk'⟩ := g_f2 i _ hx
          have htk := htk' rfl
          clear htk'
          have hRgx : Vx.Own w2 88 9 (.slice Ax nx cx) nx _ := hown
          obtain ⟨gx, c9gx, heqgx, _⟩ := hRgx.some_of (by omega)
          simp only [Value.slice.injEq, true_and] at heqgx
          obtain ⟨rfl, rfl⟩ := heqgx
          refine xc_skip ?_
          refine xc_seq ?_
          refine xc_block ?_
          refine xc_region ?_
          refine xl_op (P := Try.prog) (some 28) rfl rfl (ox_move (v := (.slice (some ⟨gA, 0, none⟩) l.length c)) g0_f2 ?_)
          refine xl_op (P := Try.prog) (some 29) rfl rfl (ox_move (v := (.int .i64 ((i : Nat)))) g3_f2 ?_)
          refine xl_op (P := Try.prog) (some 30) rfl rfl (ox_indexAddr (b := gA) (o := 0) (i := ((i : Nat))) tE_63 rfl rfl (by omega) (by omega) ?_)
          refine xl_op (P := Try.prog) (some 31) rfl rfl (ox_load (v := (.slice (some ⟨gx, 0, none⟩) nx cx)) tA_54 rfl (Own.rowv all_f2 hx) ?_)
          refine xl_op (P := Try.prog) (some 32) rfl rfl (ox_move (v := (.int .i64 ((k : Nat)))) g4_f2 ?_)
          refine xl_op (P := Try.prog) (some 33) rfl rfl (ox_move (v := (.int .i64 ((i : Nat)))) g3_f2 ?_)
          refine xl_op (P := Try.prog) (some 34) rfl rfl (ox_move (v := (.int .i64 ((k : Nat)))) g4_f2 ?_)
          refine xl_op (P := Try.prog) (some 35) rfl rfl (ox_mkStruct (ps := [(0, (.int .i64 (-1))), (1, (.int .i64 ((i : Nat)))), (4, (.int .i64 ((k : Nat))))]) (cs := #[(.int .i64 (-1)), (.int .i64 ((i : Nat))), (.int .i64 0), (.int .i64 0), (.int .i64 ((k : Nat))), (.int .i64 0), (.int .i64 0), (.int .i64 0), (.int .i64 0)]) tZ_88 tP_88 rfl (by kernel_rfl) ?_)
          refine xl_op (P := Try.prog) (some 36) rfl rfl (ox_indexAddr (b := gx) (o := 0) (i := ((k : Nat))) tE_54 rfl rfl (by omega) (by omega) ?_)
          refine xl_op (P := Try.prog) none rfl rfl (ox_storeO (m := 9) (vs := [(.int .i64 (-1)), (.int .i64 ((i : Nat))), (.int .i64 0), (.int .i64 0), (.int .i64 ((k : Nat))), (.int .i64 0), (.int .i64 0), (.int .i64 0), (.int .i64 0)]) tS_88 rfl (v := (.agg #[(.int .i64 (-1)), (.int .i64 ((i : Nat))), (.int .i64 0), (.int .i64 0), (.int .i64 ((k : Nat))), (.int .i64 0), (.int .i64 0), (.int .i64 0), (.int .i64 0)])) rfl rfl rfl rfl hRgx (by omega) ?_)
          intro w3 e1 z1 hS1
          replace e1 : Chg1 gx w2 w3 := e1
          have hgS := G1.step g_f2 hap (fun _ _ => rfl) hx (by omega) e1 (hRgx).len htk hS1
          refine xl_nil ?_
          refine xc_region ?_
          refine xl_op (P := Try.prog) (some 26) rfl rfl (ox_move (v := (.int .i64 ((k : Nat)))) g4_f2 ?_)
          refine xl_op (P := Try.prog) (some 27) rfl rfl (ox_add64 (a := ((k : Nat))) (b := 1) rfl rfl (by omega) ?_)
          refine xl_op (P := Try.prog) (some 4) rfl rfl (ox_assign (v := (.int .i64 ((k : Nat) + 1))) rfl ?_)
          refine xl_nil ?_
          have q1 := (all_f2.keep1 e1 (fun k hk => fun hh => all_f2.ne_own hRgx (by decide) k hk (by rw [hh]; rfl)))
          exact ⟨rfl, nx - (k + 1), by omega, k + 1, by omega, by omega, g0_f2, g3_f2, (by first | exact rfl | exact (congrArg (Value.int .i64) (by omega))), q1, hgS, (Chg.chg1 c_f2 e1 (.inl ⟨i, _, hx, rfl⟩))⟩
        · skip
          refine xc_exit ?_
          refine xc_region ?_
          refine xl_op (P := Try.prog) (some 17) rfl rfl (ox_move (v := (.int .i64 ((i : Nat)))) g3_f2 ?_)
          refine xl_op (P := Try.prog) (some 18) rfl rfl (ox_add64 (a := ((i : Nat))) (b := 1) rfl rfl (by omega) ?_)
          refine xl_op (P := Try.prog) (some 3) rfl rfl (ox_assign (v := (.int .i64 ((i : Nat) + 1))) rfl ?_)
          refine xl_nil ?_
          have hg9 := G1.next (g_f2) hx (show k = nx by omega)
          exact ⟨rfl, l.length - (i + 1), by omega, i + 1, by omega, by omega, g0_f2, (by first | exact rfl | exact (congrArg (Value.int .i64) (by omega))), all_f2, hg9, c_f2⟩
    · skip
      refine xc_exit ?_
      refine xc_seq ?_
      refine xc_region ?_
      refine xl_op (P := Try.prog) (some 5) rfl rfl (ox_assign (v := (.slice none 0 0)) rfl ?_)
      refine xl_nil ?_
      refine xc_seq ?_
      refine xc_seq ?_
      refine xc_region ?_
      refine xl_op (P := Try.prog) (some 6) rfl rfl (ox_assign (v := (.int .i64 0)) rfl ?_)
      refine xl_nil ?_
      refine xc_block ?_
      have hie : i = l.length := by omega
      have hg2 : G2 88 9 (mkO (-1)) (mkO (-2)) l w1.heap.size [] w1 := G1.g2 (g_f1) hie
      have hcB := c_f1
      have hzB := hcB.size
      refine xc_loopN (fun m f W => ∃ (i : Nat) (gl : List Sl3) (Ag : Option Addr) (cg : Nat), m = l.length - i ∧ i ≤ l.length ∧ gl.length = i ∧ 0 ≤ i ∧ f 0 = (.slice A l.length c) ∧ f 5 = (.slice Ag i cg) ∧ f 6 = (.int .i64 ((i : Nat))) ∧ Vx.Own W 54 1 (.slice A l.length c) l.length (l.map Sl3.v) ∧ G2 88 9 (mkO (-1)) (mkO (-2)) l w1.heap.size gl W ∧ Vx.Own W 54 1 (.slice Ag i cg) i (gl.map Sl3.v) ∧ (∀ k, ((.slice Ag i cg) : Value).ownBlock = some k → w.heap.size ≤ k) ∧ Chg (inL l) w W ∧ w1.heap.size ≤ W.heap.size) (l.length) ?_ ?_
      · exact ⟨0, [], none, 0, by omega, by omega, rfl, by omega, g0_f1, rfl, (by first | exact rfl | exact (congrArg (Value.int .i64) (by omega))), all_f1, hg2, (Vx.Own.nil _ _ _), (by simp [Value.ownBlock]), hcB, (Nat.le_refl _)⟩
      · rintro m f3 w4 ⟨i, gl, Ag, cg, hm, hi, hgl, htriv, g0_f3, g5_f3, g6_f3, all_f3, g_f3, gr_f3, lo_f3, c_f3, b_f3⟩
        have hzC := c_f3.size
        refine xc_seq ?_
        refine xc_seq ?_
        refine xc_region ?_
        refine xl_op (P := Try.prog) (some 37) rfl rfl (ox_move (v := (.int .i64 ((i : Nat)))) g6_f3 ?_)
        refine xl_op (P := Try.prog) (some 38) rfl rfl (ox_move (v := (.slice A l.length c)) g0_f3 ?_)
        refine xl_op (P := Try.prog) (some 39) rfl rfl (ox_len (A := A) (n := l.length) (cp := c) rfl tU_63 rfl ?_)
        refine xl_op (P := Try.prog) (some 40) rfl rfl (ox_lss (k := .i64) (a := ((i : Nat))) (b := (((l.length : Nat) : Int))) rfl rfl ?_)
        refine xl_nil ?_
        refine xc_if (p := ((i : Nat) : Int) < (((l.length : Nat) : Int))) rfl (fun h3 => ?_) (fun h3 => ?_)
        · skip
          have hil : i < l.length := by omega
          obtain ⟨⟨Ax, nx, cx⟩, hx⟩ := get_ex (l := l) (i := i) hil
          have hnx : nx ≤ 4194304 := hn i _ hx
          obtain ⟨gA, c9A, heqA, _⟩ := hAll.some_of (by omega)
          simp only [Value.slice.injEq, true_and] at heqA
          obtain ⟨rfl, rfl⟩ := heqA
          refine xc_skip ?_
          refine xc_seq ?_
          refine xc_block ?_
          refine xc_seq ?_
          refine xc_region ?_
          refine xl_op (P := Try.prog) (some 43) rfl rfl (ox_move (v := (.slice (some ⟨gA, 0, none⟩) l.length c)) g0_f3 ?_)
          refine xl_op (P := Try.prog) (some 44) rfl rfl (ox_move (v := (.int .i64 ((i : Nat)))) g6_f3 ?_)
          refine xl_op (P := Try.prog) (some 45) rfl rfl (ox_indexAddr (b := gA) (o := 0) (i := ((i : Nat))) tE_63 rfl rfl (by omega) (by omega) ?_)
          refine xl_op (P := Try.prog) (some 46) rfl rfl (ox_load (v := (.slice Ax nx cx)) tA_54 rfl (Own.rowv all_f3 hx) ?_)
          refine xl_op (P := Try.prog) (some 7) rfl rfl (ox_assign (v := (.slice Ax nx cx)) rfl ?_)
          refine xl_nil ?_
          refine xc_seq ?_
          refine xc_seq ?_
          refine xc_region ?_
          refine xl_op (P := Try.prog) (some 8) rfl rfl (ox_assign (v := (.int .i64 0)) rfl ?_)
          refine xl_nil ?_
          refine xc_block ?_
          have hI0 : I2 88 9 (mkO (-1)) (mkO (-2)) w1.heap.size gl w4 i ⟨Ax, nx, cx⟩ 0 (Sl3.v ⟨Ax, nx, cx⟩) := I2.zero g_f3 hx
          refine xc_loopN (fun m f W => ∃ (k : Nat) (Av : Option Addr) (cv : Nat), m = 70 - k ∧ k ≤ 70 ∧ f 0 = (.slice (some ⟨gA, 0, none⟩) l.length c) ∧ f 5 = (.slice Ag i cg) ∧ f 6 = (.int .i64 ((i : Nat))) ∧ f 7 = (.slice Av (nx + k) cv) ∧ f 8 = (.int .i64 ((k : Nat))) ∧ Vx.Own W 54 1 (.slice (some ⟨gA, 0, none⟩) l.length c) l.length (l.map Sl3.v) ∧ G2 88 9 (mkO (-1)) (mkO (-2)) l w1.heap.size gl W ∧ Vx.Own W 54 1 (.slice Ag i cg) i (gl.map Sl3.v) ∧ I2 88 9 (mkO (-1)) (mkO (-2)) w1.heap.size gl W i ⟨Ax, nx, cx⟩ k (.slice Av (nx + k) cv) ∧ Chg (inL l) w W ∧ w1.heap.size ≤ W.heap.size) (70) ?_ ?_
          · exact ⟨0, Ax, cx, by omega, by omega, g0_f3, g5_f3, g6_f3, rfl, (by first | exact rfl | exact (congrArg (Value.int .i64) (by omega))), all_f3, g_f3, gr_f3, hI0, c_f3, (by omega)⟩
          · rintro m f4 w5 ⟨k, Av, cv, hm, hk, g0_f4, g5_f4, g6_f4, g7_f4, g8_f4, all_f4, g_f4, gr_f4, I_f4, c_f4, b_f4⟩
            have hzD := c_f4.size
            refine xc_seq ?_
            refine xc_seq ?_
            refine xc_region ?_
            refine xl_op (P := Try.prog) (some 47) rfl rfl (ox_move (v := (.int .i64 ((k : Nat)))) g8_f4 ?_)
            refine xl_op (P := Try.prog) (some 48) rfl rfl (ox_lss (k := .i64) (a := ((k : Nat))) (b := 70) rfl rfl ?_)
            refine xl_nil ?_
            refine xc_if (p := ((k : Nat) : Int) < 70) rfl (fun h4 => ?_) (fun h4 => ?_)
            · skip
              refine xc_skip ?_
              refine xc_seq ?_
              refine xc_block ?_
              refine xc_region ?_
              refine xl_op (P := Try.prog) (some 51) rfl rfl (ox_move (v := (.slice Av (nx + k) cv)) g7_f4 ?_)
              refine xl_op (P := Try.prog) (some 52) rfl rfl (ox_move (v := (.int .i64 ((i : Nat)))) g6_f4 ?_)
              refine xl_op (P := Try.prog) (some 53) rfl rfl (ox_move (v := (.int .i64 ((k : Nat)))) g8_f4 ?_)
              refine xl_op (P := Try.prog) (some 54) rfl rfl (ox_mkStruct (ps := [(0, (.int .i64 (-2))), (1, (.int .i64 ((i : Nat)))), (4, (.int .i64 ((k : Nat))))]) (cs := #[(.int .i64 (-2)), (.int .i64 ((i : Nat))), (.int .i64 0), (.int .i64 0), (.int .i64 ((k : Nat))), (.int .i64 0), (.int .i64 0), (.int .i64 0), (.int .i64 0)]) tZ_88 tP_88 rfl (by kernel_rfl) ?_)
              refine xl_op (P := Try.prog) (some 55) rfl rfl (ox_mkSlice (ps := [(0, (.agg #[(.int .i64 (-2)), (.int .i64 ((i : Nat))), (.int .i64 0), (.int .i64 0), (.int .i64 ((k : Nat))), (.int .i64 0), (.int .i64 0), (.int .i64 0), (.int .i64 0)]))]) (zs := #[(.int .i64 0), (.int .i64 0), (.int .i64 0), (.int .i64 0), (.int .i64 0), (.int .i64 0), (.int .i64 0), (.int .i64 0), (.int .i64 0)]) (cs := #[(.int .i64 (-2)), (.int .i64 ((i : Nat))), (.int .i64 0), (.int .i64 0), (.int .i64 ((k : Nat))), (.int .i64 0), (.int .i64 0), (.int .i64 0), (.int .i64 0)]) tE_54 rfl (by decide) (by kernel_rfl) (by kernel_rfl) ?_)
              intro w6 e2 z2 b1
              replace b1 : Blk w6 w5.heap.size #[(.int .i64 (-2)), (.int .i64 ((i : Nat))), (.int .i64 0), (.int .i64 0), (.int .i64 ((k : Nat))), (.int .i64 0), (.int .i64 0), (.int .i64 0), (.int .i64 0)] 88 := b1
              refine xl_op (P := Try.prog) (some 56) rfl rfl (ox_append2 (n := nx + k) (g := w5.heap.size) (o := 0) (m := 1) (xs := nC ((mkO (-1)) i) nx ++ nC ((mkO (-2)) i) k) (news := (mkO (-2)) i k) rfl tE_54 rfl (by decide) (v := (.slice Av (nx + k) cv)) rfl rfl (I2.own (I_f4.ext e2)) rfl b1.all rfl (by omega) (by omega) (by omega) ?_)
              have hIb := (I_f4.ext e2)
              have hgb := (g_f4.ext e2)
              intro v1 w7 o1 at1
              have e3 := alt_chg at1
              have he3 := e3.size
              obtain ⟨hg9, hI9⟩ := I2.step hgb hIb hap (fun _ _ => rfl) hx (by omega) (by omega) o1 at1
              obtain ⟨Av1, cv1, rfl, _⟩ := hI9.own.shape
              refine xl_op (P := Try.prog) (some 7) rfl rfl (ox_assign (v := (.slice Av1 (nx + (k + 1)) cv1)) rfl ?_)
              refine xl_nil ?_
              refine xc_region ?_
              refine xl_op (P := Try.prog) (some 49) rfl rfl (ox_move (v := (.int .i64 ((k : Nat)))) g8_f4 ?_)
              refine xl_op (P := Try.prog) (some 50) rfl rfl (ox_add64 (a := ((k : Nat))) (b := 1) rfl rfl (by omega) ?_)
              refine xl_op (P := Try.prog) (some 8) rfl rfl (ox_assign (v := (.int .i64 ((k : Nat) + 1))) rfl ?_)
              refine xl_nil ?_
              have hsz0 := e2.size
              have hsz1 := e3.size
              have q2 := ((all_f4.ext e2).keep e3 (fun _k _hk => (all_f4.ext e2).ne_own (I2.own (I_f4.ext e2)) (by decide) _k _hk))
              have q3 := ((gr_f4.ext e2).keep e3 (fun _k _hk => (gr_f4.ext e2).ne_own (I2.own (I_f4.ext e2)) (by decide) _k _hk))
              exact ⟨rfl, 70 - (k + 1), by omega, k + 1, Av1, cv1, by omega, by omega, g0_f4, g5_f4, g6_f4, rfl, (by first | exact rfl | exact (congrArg (Value.int .i64) (by omega))), q2, hg9, q3, hI9, (Chg.trans (Chg.ext c_f4 e2) e3 (fun b hb hl => by rcases (I2.inl hIb hx) b hb with h9 | h9; exact h9; omega)), (by omega)⟩
            · skip
              obtain rfl : k = 70 := by omega
              refine xc_exit ?_
              refine xc_region ?_
              refine xl_op (P := Try.prog) (some 57) rfl rfl (ox_move (v := (.slice Ag i cg)) g5_f4 ?_)
              refine xl_op (P := Try.prog) (some 58) rfl rfl (ox_move (v := (.slice Av (nx + 70) cv)) g7_f4 ?_)
              refine xl_op (P := Try.prog) (some 59) rfl rfl (ox_mkSlice (ps := [(0, (.slice Av (nx + 70) cv))]) (zs := #[(.slice none 0 0)]) (cs := #[(.slice Av (nx + 70) cv)]) tE_63 rfl (by decide) (by kernel_rfl) (by kernel_rfl) ?_)
              intro w8 e4 z3 b2
              replace b2 : Blk w8 w5.heap.size #[(.slice Av (nx + 70) cv)] 54 := b2
              refine xl_op (P := Try.prog) (some 60) rfl rfl (ox_append (n := i) (g := w5.heap.size) (o := 0) (m := 1) (xs := ((gl.map Sl3.v))) (news := ([(.slice Av (nx + 70) cv)])) rfl tE_63 rfl (by decide) (v := (.slice Ag i cg)) rfl rfl (gr_f4.ext e4) rfl b2.all rfl (by omega) (by omega) ?_)
              intro v2 w9 o2 e5 at2 nil1
              have he5 := e5.size
              obtain ⟨A1, c1, rfl, hc1⟩ := o2.shape
              have low1 : ∀ _k, (Value.slice A1 (i + 1) c1).ownBlock = some _k → w.heap.size ≤ _k := fun _k _h => by rcases at2 with _e | _e <;> rw [_e] at _h; exact lo_f3 _k _h; exact (by cases _h; omega)
              refine xl_op (P := Try.prog) (some 5) rfl rfl (ox_assign (v := (.slice A1 (i + 1) c1)) rfl ?_)
              refine xl_nil ?_
              refine xc_region ?_
              refine xl_op (P := Try.prog) (some 41) rfl rfl (ox_move (v := (.int .i64 ((i : Nat)))) g6_f4 ?_)
              refine xl_op (P := Try.prog) (some 42) rfl rfl (ox_add64 (a := ((i : Nat))) (b := 1) rfl rfl (by omega) ?_)
              refine xl_op (P := Try.prog) (some 6) rfl rfl (ox_assign (v := (.int .i64 ((i : Nat) + 1))) rfl ?_)
              refine xl_nil ?_
              have hgr9 := o2
              have hsz0 := e4.size
              have hsz1 := e5.size
              have q4 := (G2.keep (g_f4.ext e4) e5 (fun _v _n _xs _h => _h.ne_own (gr_f4.ext e4) (by decide)))
              have q5 := (I2.keep (I_f4.ext e4) e5 (fun _v _n _xs _h => _h.ne_own (gr_f4.ext e4) (by decide)))
              have hg9 := G2.snoc (q4) (q5) hx hgl
              have q6 := ((all_f4.ext e4).keep e5 (fun k hk hh => by have _h1 := hAll.lt k hk; have _h2 := lo_f3 k hh; omega))
              exact ⟨rfl, l.length - (i + 1), by omega, i + 1, gl ++ [⟨Av, nx + 70, cv⟩], A1, c1, by omega, by omega, by simp [hgl], by omega, g0_f4, rfl, (by first | exact rfl | exact (congrArg (Value.int .i64) (by omega))), q6, hg9, (by rw [List.map_append]; exact hgr9), (fun k hk => low1 k (ownBlock_len hk)), (Chg.trans (Chg.ext c_f4 e4) e5 (fun b hb hl => absurd hl (by have _h := lo_f3 b hb; omega))), (by omega)⟩
        · skip
          refine xc_exit ?_
          refine xc_seq ?_
          refine xc_seq ?_
          refine xc_region ?_
          refine xl_op (P := Try.prog) (some 9) rfl rfl (ox_assign (v := (.int .i64 0)) rfl ?_)
          refine xl_nil ?_
          refine xc_block ?_
          obtain rfl : i = l.length := by omega
          have hA3 := all_f3
          have hG3 := gr_f3
          have hg3 := g_f3
          have hc3 := c_f3
          have hgl3 : gl.length = l.length := by omega
          refine xc_loopN (fun m f W => ∃ (i : Nat), m = l.length - i ∧ i ≤ l.length ∧ f 0 = (.slice A l.length c) ∧ f 5 = (.slice Ag l.length cg) ∧ f 9 = (.int .i64 ((i : Nat))) ∧ Ext w4 W) (l.length) ?_ ?_
          · exact ⟨0, by omega, by omega, g0_f3, g5_f3, (by first | exact rfl | exact (congrArg (Value.int .i64) (by omega))), (Chg.refl _ _)⟩
          · rintro m f5 w10 ⟨i, hm, hi, g0_f5, g5_f5, g9_f5, x_f5⟩
            have hzX := x_f5.size
            refine xc_seq ?_
            refine xc_seq ?_
            refine xc_region ?_
            refine xl_op (P := Try.prog) (some 61) rfl rfl (ox_move (v := (.int .i64 ((i : Nat)))) g9_f5 ?_)
            refine xl_op (P := Try.prog) (some 62) rfl rfl (ox_move (v := (.slice A l.length c)) g0_f5 ?_)
            refine xl_op (P := Try.prog) (some 63) rfl rfl (ox_len (A := A) (n := l.length) (cp := c) rfl tU_63 rfl ?_)
            refine xl_op (P := Try.prog) (some 64) rfl rfl (ox_lss (k := .i64) (a := ((i : Nat))) (b := (((l.length : Nat) : Int))) rfl rfl ?_)
            refine xl_nil ?_
            refine xc_if (p := ((i : Nat) : Int) < (((l.length : Nat) : Int))) rfl (fun h5 => ?_) (fun h5 => ?_)
            · skip
              have hil : i < l.length := by omega
              obtain ⟨⟨Ax, nx, cx⟩, hx⟩ := get_ex (l := l) (i := i) hil
              have hnx : nx ≤ 4194304 := hn i _ hx
              obtain ⟨gA, c9A, heqA, _⟩ := hAll.some_of (by omega)
              simp only [Value.slice.injEq, true_and] at heqA
              obtain ⟨rfl, rfl⟩ := heqA
              obtain ⟨⟨Ay, ny, cy⟩, hy⟩ := get_ex (l := gl) (i := i) (by omega)
              obtain ⟨hny, hoy, _⟩ := hg3.b i _ _ hx hy
              have hox := hg3.a i _ hx
              simp only at hny
              subst hny
              obtain ⟨gG, c9G, heqG, _⟩ := hG3.some_of (by omega)
              simp only [Value.slice.injEq, true_and] at heqG
              obtain ⟨rfl, rfl⟩ := heqG
              refine xc_skip ?_
              refine xc_seq ?_
              refine xc_block ?_
              refine xc_seq ?_
              refine xc_region ?_
              refine xl_op (P := Try.prog) (some 67) rfl rfl (ox_move (v := (.slice (some ⟨gA, 0, none⟩) l.length c)) g0_f5 ?_)
              refine xl_op (P := Try.prog) (some 68) rfl rfl (ox_move (v := (.int .i64 ((i : Nat)))) g9_f5 ?_)
              refine xl_op (P := Try.prog) (some 69) rfl rfl (ox_indexAddr (b := gA) (o := 0) (i := ((i : Nat))) tE_63 rfl rfl (by omega) (by omega) ?_)
              refine xl_op (P := Try.prog) (some 70) rfl rfl (ox_load (v := (.slice Ax nx cx)) tA_54 rfl (Ext.cell (Own.rowv hA3 hx) x_f5) ?_)
              refine xl_op (P := Try.prog) (some 71) rfl rfl (ox_len (A := Ax) (n := nx) (cp := cx) rfl tU_54 rfl ?_)
              refine xl_op (P := Try.prog) (some 10) rfl rfl (ox_assign (v := (.int .i64 (((nx : Nat) : Int)))) rfl ?_)
              refine xl_nil ?_
              refine xc_seq ?_
              refine xc_seq ?_
              refine xc_region ?_
              refine xl_op (P := Try.prog) (some 11) rfl rfl (ox_assign (v := (.int .i64 0)) rfl ?_)
              refine xl_nil ?_
              refine xc_block ?_
              refine xc_loopN (fun m f W => ∃ (k : Nat), m = nx - k ∧ k ≤ nx ∧ f 0 = (.slice (some ⟨gA, 0, none⟩) l.length c) ∧ f 5 = (.slice (some ⟨gG, 0, none⟩) l.length cg) ∧ f 9 = (.int .i64 ((i : Nat))) ∧ f 10 = (.int .i64 (((nx : Nat) : Int))) ∧ f 11 = (.int .i64 ((k : Nat))) ∧ Ext w4 W) (nx) ?_ ?_
              · exact ⟨0, by omega, by omega, g0_f5, g5_f5, g9_f5, rfl, (by first | exact rfl | exact (congrArg (Value.int .i64) (by omega))), x_f5⟩
              · rintro m f6 w11 ⟨k, hm, hk, g0_f6, g5_f6, g9_f6, g10_f6, g11_f6, x_f6⟩
                have hzY := x_f6.size
                refine xc_seq ?_
                refine xc_seq ?_
                refine xc_region ?_
                refine xl_op (P := Try.prog) (some 72) rfl rfl (ox_move (v := (.int .i64 ((k : Nat)))) g11_f6 ?_)
                refine xl_op (P := Try.prog) (some 73) rfl rfl (ox_move (v := (.int .i64 (((nx : Nat) : Int)))) g10_f6 ?_)
                refine xl_op (P := Try.prog) (some 74) rfl rfl (ox_lss (k := .i64) (a := ((k : Nat))) (b := (((nx : Nat) : Int))) rfl rfl ?_)
                refine xl_nil ?_
                refine xc_if (p := ((k : Nat) : Int) < (((nx : Nat) : Int))) rfl (fun h6 => ?_) (fun h6 => ?_)
                · skip
                  have hRgx : Vx.Own w4 88 9 (.slice Ax nx cx) nx (nC ((mkO (-1)) i) nx) := hox
                  obtain ⟨gx, c9gx, heqgx, _⟩ := hRgx.some_of (by omega)
                  simp only [Value.slice.injEq, true_and] at heqgx
                  obtain ⟨rfl, rfl⟩ := heqgx
                  have hRgy : Vx.Own w4 88 9 (.slice Ay (nx + 70) cy) (nx + 70) (nC ((mkO (-1)) i) nx ++ nC ((mkO (-2)) i) 70) := hoy
                  obtain ⟨gy, c9gy, heqgy, _⟩ := hRgy.some_of (by omega)
                  simp only [Value.slice.injEq, true_and] at heqgy
                  obtain ⟨rfl, rfl⟩ := heqgy
                  have hc1 := Own.nc hRgx (fun _ => rfl) (k := k) (by omega)
                  have hc2 := Own.nc1 hRgy (fun _ => rfl) (k := k) (by omega)
                  refine xc_skip ?_
                  refine xc_seq ?_
                  refine xc_block ?_
                  refine xc_seq ?_
                  refine xc_regionE [] (fun W_ => Chg (fun _ => False) w11 W_) hmix ?_
                  intro w12 e6 z4
                  have hS2 : Chg (fun _ => False) w11 w12 := Ext.to e6
                  refine xd_pure 0 (some 77) rfl rfl (by kernel_rfl) (v := (.slice (some ⟨gA, 0, none⟩) l.length c)) (.inl ⟨rfl, fun W_ hW_ => ox_move (v := (.slice (some ⟨gA, 0, none⟩) l.length c)) g0_f6 ⟨rfl, rfl⟩⟩) ?_
                  refine xd_pure 1 (some 78) rfl rfl (by kernel_rfl) (v := (.int .i64 ((i : Nat)))) (.inl ⟨rfl, fun W_ hW_ => ox_move (v := (.int .i64 ((i : Nat)))) g9_f6 ⟨rfl, rfl⟩⟩) ?_
                  refine xd_pure 2 (some 79) rfl rfl (by kernel_rfl) (v := (.pointer (some ⟨gA, 0 + i * 1, none⟩))) (.inl ⟨rfl, fun W_ hW_ => ox_indexAddr (b := gA) (o := 0) (i := ((i : Nat))) tE_63 rfl rfl (by omega) (by omega) ⟨rfl, rfl⟩⟩) ?_
                  refine xd_take 3 (some 80) rfl rfl (by kernel_rfl) (v := (.slice (some ⟨gx, 0, none⟩) nx cx)) (.inl ⟨rfl, fun W_ hW_ => ox_load (v := (.slice (some ⟨gx, 0, none⟩) nx cx)) tA_54 rfl (Ext.cell (Own.rowv hA3 hx) (Ext.trans x_f6 hW_)) ⟨rfl, rfl⟩⟩) hS2 ?_
                  refine xd_pure 4 (some 81) rfl rfl (by kernel_rfl) (v := (.int .i64 ((k : Nat)))) (.inl ⟨rfl, fun W_ hW_ => ox_move (v := (.int .i64 ((k : Nat)))) g11_f6 ⟨rfl, rfl⟩⟩) ?_
                  refine xd_pure 5 (some 82) rfl rfl (by kernel_rfl) (v := (.pointer (some ⟨gx, 0 + k * 9, none⟩))) (.inl ⟨rfl, fun W_ hW_ => ox_indexAddr (b := gx) (o := 0) (i := ((k : Nat))) tE_54 rfl rfl (by omega) (by omega) ⟨rfl, rfl⟩⟩) ?_
                  refine xd_take 6 (some 83) rfl rfl (by kernel_rfl) (v := (.agg #[(.int .i64 (-1)), (.int .i64 ((i : Nat))), (.int .i64 0), (.int .i64 0), (.int .i64 ((k : Nat))), (.int .i64 0), (.int .i64 0), (.int .i64 0), (.int .i64 0)])) (.inl ⟨rfl, fun W_ hW_ => ox_loadN (vs := [(.int .i64 (-1)), (.int .i64 ((i : Nat))), (.int .i64 0), (.int .i64 0), (.int .i64 ((k : Nat))), (.int .i64 0), (.int .i64 0), (.int .i64 0), (.int .i64 0)]) tA_88 tS_88 rfl rfl (CellsL.keep (Ext.trans x_f6 hW_) not_false hc1) ⟨rfl, rfl⟩⟩) hS2 ?_
                  refine xd_pure 7 (some 84) rfl rfl (by kernel_rfl) (v := (.int .i64 ((i : Nat)))) (.inl ⟨rfl, fun W_ hW_ => ox_move (v := (.int .i64 ((i : Nat)))) g9_f6 ⟨rfl, rfl⟩⟩) ?_
                  refine xd_pure 8 (some 85) rfl rfl (by kernel_rfl) (v := (.int .i64 ((k : Nat)))) (.inl ⟨rfl, fun W_ hW_ => ox_move (v := (.int .i64 ((k : Nat)))) g11_f6 ⟨rfl, rfl⟩⟩) ?_
                  refine xd_pure 9 (some 86) rfl rfl (by kernel_rfl) (v := (.agg #[(.int .i64 (-1)), (.int .i64 ((i : Nat))), (.int .i64 0), (.int .i64 0), (.int .i64 ((k : Nat))), (.int .i64 0), (.int .i64 0), (.int .i64 0), (.int .i64 0)])) (.inl ⟨rfl, fun W_ hW_ => ox_mkStruct (ps := [(0, (.int .i64 (-1))), (1, (.int .i64 ((i : Nat)))), (4, (.int .i64 ((k : Nat))))]) (cs := #[(.int .i64 (-1)), (.int .i64 ((i : Nat))), (.int .i64 0), (.int .i64 0), (.int .i64 ((k : Nat))), (.int .i64 0), (.int .i64 0), (.int .i64 0), (.int .i64 0)]) tZ_88 tP_88 rfl (by kernel_rfl) ⟨rfl, rfl⟩⟩) ?_
                  refine xd_pure 10 (some 87) rfl rfl (by kernel_rfl) (v := (.bool (!decide (((-1 : Int) = (-1) ∧ ((i : Nat) : Int) = ((i : Nat)) ∧ (0 : Int) = 0 ∧ (0 : Int) = 0 ∧ ((k : Nat) : Int) = ((k : Nat)) ∧ (0 : Int) = 0 ∧ (0 : Int) = 0 ∧ (0 : Int) = 0 ∧ (0 : Int) = 0))))) (.inl ⟨rfl, fun W_ hW_ => ox_neqF (xs := [(.int .i64 (-1)), (.int .i64 ((i : Nat))), (.int .i64 0), (.int .i64 0), (.int .i64 ((k : Nat))), (.int .i64 0), (.int .i64 0), (.int .i64 0), (.int .i64 0)]) (ys := [(.int .i64 (-1)), (.int .i64 ((i : Nat))), (.int .i64 0), (.int .i64 0), (.int .i64 ((k : Nat))), (.int .i64 0), (.int .i64 0), (.int .i64 0), (.int .i64 0)]) (p := ((-1 : Int) = (-1) ∧ ((i : Nat) : Int) = ((i : Nat)) ∧ (0 : Int) = 0 ∧ (0 : Int) = 0 ∧ ((k : Nat) : Int) = ((k : Nat)) ∧ (0 : Int) = 0 ∧ (0 : Int) = 0 ∧ (0 : Int) = 0 ∧ (0 : Int) = 0)) fS_88 rfl rfl rfl rfl (by simp) ⟨rfl, rfl⟩⟩) ?_
                  refine xd_pure 11 (some 88) rfl rfl (by kernel_rfl) (v := (.bool (!decide (((-1 : Int) = (-1) ∧ ((i : Nat) : Int) = ((i : Nat)) ∧ (0 : Int) = 0 ∧ (0 : Int) = 0 ∧ ((k : Nat) : Int) = ((k : Nat)) ∧ (0 : Int) = 0 ∧ (0 : Int) = 0 ∧ (0 : Int) = 0 ∧ (0 : Int) = 0))))) (.inl ⟨rfl, fun W_ hW_ => ox_move (v := (.bool (!decide (((-1 : Int) = (-1) ∧ ((i : Nat) : Int) = ((i : Nat)) ∧ (0 : Int) = 0 ∧ (0 : Int) = 0 ∧ ((k : Nat) : Int) = ((k : Nat)) ∧ (0 : Int) = 0 ∧ (0 : Int) = 0 ∧ (0 : Int) = 0 ∧ (0 : Int) = 0))))) rfl ⟨rfl, rfl⟩⟩) ?_
                  refine xd_pure 12 (some 89) rfl rfl (by kernel_rfl) (v := (.slice (some ⟨gG, 0, none⟩) l.length cg)) (.inl ⟨(wanted_of (j := 11) (b := false) rfl (congrArg some (by simp : (!decide (((-1 : Int) = (-1) ∧ ((i : Nat) : Int) = ((i : Nat)) ∧ (0 : Int) = 0 ∧ (0 : Int) = 0 ∧ ((k : Nat) : Int) = ((k : Nat)) ∧ (0 : Int) = 0 ∧ (0 : Int) = 0 ∧ (0 : Int) = 0 ∧ (0 : Int) = 0))) = false))), fun W_ hW_ => ox_move (v := (.slice (some ⟨gG, 0, none⟩) l.length cg)) g5_f6 ⟨rfl, rfl⟩⟩) ?_
                  refine xd_pure 13 (some 90) rfl rfl (by kernel_rfl) (v := (.int .i64 ((i : Nat)))) (.inl ⟨(wanted_of (j := 11) (b := false) rfl (congrArg some (by simp : (!decide (((-1 : Int) = (-1) ∧ ((i : Nat) : Int) = ((i : Nat)) ∧ (0 : Int) = 0 ∧ (0 : Int) = 0 ∧ ((k : Nat) : Int) = ((k : Nat)) ∧ (0 : Int) = 0 ∧ (0 : Int) = 0 ∧ (0 : Int) = 0 ∧ (0 : Int) = 0))) = false))), fun W_ hW_ => ox_move (v := (.int .i64 ((i : Nat)))) g9_f6 ⟨rfl, rfl⟩⟩) ?_
                  refine xd_pure 14 (some 91) rfl rfl (by kernel_rfl) (v := (.pointer (some ⟨gG, 0 + i * 1, none⟩))) (.inl ⟨(wanted_of (j := 11) (b := false) rfl (congrArg some (by simp : (!decide (((-1 : Int) = (-1) ∧ ((i : Nat) : Int) = ((i : Nat)) ∧ (0 : Int) = 0 ∧ (0 : Int) = 0 ∧ ((k : Nat) : Int) = ((k : Nat)) ∧ (0 : Int) = 0 ∧ (0 : Int) = 0 ∧ (0 : Int) = 0 ∧ (0 : Int) = 0))) = false))), fun W_ hW_ => ox_indexAddr (b := gG) (o := 0) (i := ((i : Nat))) tE_63 rfl rfl (by omega) (by omega) ⟨rfl, rfl⟩⟩) ?_
                  refine xd_take 15 (some 92) rfl rfl (by kernel_rfl) (v := (.slice (some ⟨gy, 0, none⟩) (nx + 70) cy)) (.inl ⟨(wanted_of (j := 11) (b := false) rfl (congrArg some (by simp : (!decide (((-1 : Int) = (-1) ∧ ((i : Nat) : Int) = ((i : Nat)) ∧ (0 : Int) = 0 ∧ (0 : Int) = 0 ∧ ((k : Nat) : Int) = ((k : Nat)) ∧ (0 : Int) = 0 ∧ (0 : Int) = 0 ∧ (0 : Int) = 0 ∧ (0 : Int) = 0))) = false))), fun W_ hW_ => ox_load (v := (.slice (some ⟨gy, 0, none⟩) (nx + 70) cy)) tA_54 rfl (Ext.cell (Own.rowv hG3 hy) (Ext.trans x_f6 hW_)) ⟨rfl, rfl⟩⟩) hS2 ?_
                  refine xd_pure 16 (some 93) rfl rfl (by kernel_rfl) (v := (.int .i64 ((k : Nat)))) (.inl ⟨(wanted_of (j := 11) (b := false) rfl (congrArg some (by simp : (!decide (((-1 : Int) = (-1) ∧ ((i : Nat) : Int) = ((i : Nat)) ∧ (0 : Int) = 0 ∧ (0 : Int) = 0 ∧ ((k : Nat) : Int) = ((k : Nat)) ∧ (0 : Int) = 0 ∧ (0 : Int) = 0 ∧ (0 : Int) = 0 ∧ (0 : Int) = 0))) = false))), fun W_ hW_ => ox_move (v := (.int .i64 ((k : Nat)))) g11_f6 ⟨rfl, rfl⟩⟩) ?_
                  refine xd_pure 17 (some 94) rfl rfl (by kernel_rfl) (v := (.pointer (some ⟨gy, 0 + k * 9, none⟩))) (.inl ⟨(wanted_of (j := 11) (b := false) rfl (congrArg some (by simp : (!decide (((-1 : Int) = (-1) ∧ ((i : Nat) : Int) = ((i : Nat)) ∧ (0 : Int) = 0 ∧ (0 : Int) = 0 ∧ ((k : Nat) : Int) = ((k : Nat)) ∧ (0 : Int) = 0 ∧ (0 : Int) = 0 ∧ (0 : Int) = 0 ∧ (0 : Int) = 0))) = false))), fun W_ hW_ => ox_indexAddr (b := gy) (o := 0) (i := ((k : Nat))) tE_54 rfl rfl (by omega) (by omega) ⟨rfl, rfl⟩⟩) ?_
                  refine xd_take 18 (some 95) rfl rfl (by kernel_rfl) (v := (.agg #[(.int .i64 (-1)), (.int .i64 ((i : Nat))), (.int .i64 0), (.int .i64 0), (.int .i64 ((k : Nat))), (.int .i64 0), (.int .i64 0), (.int .i64 0), (.int .i64 0)])) (.inl ⟨(wanted_of (j := 11) (b := false) rfl (congrArg some (by simp : (!decide (((-1 : Int) = (-1) ∧ ((i : Nat) : Int) = ((i : Nat)) ∧ (0 : Int) = 0 ∧ (0 : Int) = 0 ∧ ((k : Nat) : Int) = ((k : Nat)) ∧ (0 : Int) = 0 ∧ (0 : Int) = 0 ∧ (0 : Int) = 0 ∧ (0 : Int) = 0))) = false))), fun W_ hW_ => ox_loadN (vs := [(.int .i64 (-1)), (.int .i64 ((i : Nat))), (.int .i64 0), (.int .i64 0), (.int .i64 ((k : Nat))), (.int .i64 0), (.int .i64 0), (.int .i64 0), (.int .i64 0)]) tA_88 tS_88 rfl rfl (CellsL.keep (Ext.trans x_f6 hW_) not_false hc2) ⟨rfl, rfl⟩⟩) hS2 ?_
                  refine xd_pure 19 (some 96) rfl rfl (by kernel_rfl) (v := (.slice (some ⟨gA, 0, none⟩) l.length c)) (.inl ⟨(wanted_of (j := 11) (b := false) rfl (congrArg some (by simp : (!decide (((-1 : Int) = (-1) ∧ ((i : Nat) : Int) = ((i : Nat)) ∧ (0 : Int) = 0 ∧ (0 : Int) = 0 ∧ ((k : Nat) : Int) = ((k : Nat)) ∧ (0 : Int) = 0 ∧ (0 : Int) = 0 ∧ (0 : Int) = 0 ∧ (0 : Int) = 0))) = false))), fun W_ hW_ => ox_move (v := (.slice (some ⟨gA, 0, none⟩) l.length c)) g0_f6 ⟨rfl, rfl⟩⟩) ?_
                  refine xd_pure 20 (some 97) rfl rfl (by kernel_rfl) (v := (.int .i64 ((i : Nat)))) (.inl ⟨(wanted_of (j := 11) (b := false) rfl (congrArg some (by simp : (!decide (((-1 : Int) = (-1) ∧ ((i : Nat) : Int) = ((i : Nat)) ∧ (0 : Int) = 0 ∧ (0 : Int) = 0 ∧ ((k : Nat) : Int) = ((k : Nat)) ∧ (0 : Int) = 0 ∧ (0 : Int) = 0 ∧ (0 : Int) = 0 ∧ (0 : Int) = 0))) = false))), fun W_ hW_ => ox_move (v := (.int .i64 ((i : Nat)))) g9_f6 ⟨rfl, rfl⟩⟩) ?_
                  refine xd_pure 21 (some 98) rfl rfl (by kernel_rfl) (v := (.pointer (some ⟨gA, 0 + i * 1, none⟩))) (.inl ⟨(wanted_of (j := 11) (b := false) rfl (congrArg some (by simp : (!decide (((-1 : Int) = (-1) ∧ ((i : Nat) : Int) = ((i : Nat)) ∧ (0 : Int) = 0 ∧ (0 : Int) = 0 ∧ ((k : Nat) : Int) = ((k : Nat)) ∧ (0 : Int) = 0 ∧ (0 : Int) = 0 ∧ (0 : Int) = 0 ∧ (0 : Int) = 0))) = false))), fun W_ hW_ => ox_indexAddr (b := gA) (o := 0) (i := ((i : Nat))) tE_63 rfl rfl (by omega) (by omega) ⟨rfl, rfl⟩⟩) ?_
                  refine xd_take 22 (some 99) rfl rfl (by kernel_rfl) (v := (.slice (some ⟨gx, 0, none⟩) nx cx)) (.inl ⟨(wanted_of (j := 11) (b := false) rfl (congrArg some (by simp : (!decide (((-1 : Int) = (-1) ∧ ((i : Nat) : Int) = ((i : Nat)) ∧ (0 : Int) = 0 ∧ (0 : Int) = 0 ∧ ((k : Nat) : Int) = ((k : Nat)) ∧ (0 : Int) = 0 ∧ (0 : Int) = 0 ∧ (0 : Int) = 0 ∧ (0 : Int) = 0))) = false))), fun W_ hW_ => ox_load (v := (.slice (some ⟨gx, 0, none⟩) nx cx)) tA_54 rfl (Ext.cell (Own.rowv hA3 hx) (Ext.trans x_f6 hW_)) ⟨rfl, rfl⟩⟩) hS2 ?_
                  refine xd_pure 23 (some 100) rfl rfl (by kernel_rfl) (v := (.int .i64 ((k : Nat)))) (.inl ⟨(wanted_of (j := 11) (b := false) rfl (congrArg some (by simp : (!decide (((-1 : Int) = (-1) ∧ ((i : Nat) : Int) = ((i : Nat)) ∧ (0 : Int) = 0 ∧ (0 : Int) = 0 ∧ ((k : Nat) : Int) = ((k : Nat)) ∧ (0 : Int) = 0 ∧ (0 : Int) = 0 ∧ (0 : Int) = 0 ∧ (0 : Int) = 0))) = false))), fun W_ hW_ => ox_move (v := (.int .i64 ((k : Nat)))) g11_f6 ⟨rfl, rfl⟩⟩) ?_
                  refine xd_pure 24 (some 101) rfl rfl (by kernel_rfl) (v := (.pointer (some ⟨gx, 0 + k * 9, none⟩))) (.inl ⟨(wanted_of (j := 11) (b := false) rfl (congrArg some (by simp : (!decide (((-1 : Int) = (-1) ∧ ((i : Nat) : Int) = ((i : Nat)) ∧ (0 : Int) = 0 ∧ (0 : Int) = 0 ∧ ((k : Nat) : Int) = ((k : Nat)) ∧ (0 : Int) = 0 ∧ (0 : Int) = 0 ∧ (0 : Int) = 0 ∧ (0 : Int) = 0))) = false))), fun W_ hW_ => ox_indexAddr (b := gx) (o := 0) (i := ((k : Nat))) tE_54 rfl rfl (by omega) (by omega) ⟨rfl, rfl⟩⟩) ?_
                  refine xd_take 25 (some 102) rfl rfl (by kernel_rfl) (v := (.agg #[(.int .i64 (-1)), (.int .i64 ((i : Nat))), (.int .i64 0), (.int .i64 0), (.int .i64 ((k : Nat))), (.int .i64 0), (.int .i64 0), (.int .i64 0), (.int .i64 0)])) (.inl ⟨(wanted_of (j := 11) (b := false) rfl (congrArg some (by simp : (!decide (((-1 : Int) = (-1) ∧ ((i : Nat) : Int) = ((i : Nat)) ∧ (0 : Int) = 0 ∧ (0 : Int) = 0 ∧ ((k : Nat) : Int) = ((k : Nat)) ∧ (0 : Int) = 0 ∧ (0 : Int) = 0 ∧ (0 : Int) = 0 ∧ (0 : Int) = 0))) = false))), fun W_ hW_ => ox_loadN (vs := [(.int .i64 (-1)), (.int .i64 ((i : Nat))), (.int .i64 0), (.int .i64 0), (.int .i64 ((k : Nat))), (.int .i64 0), (.int .i64 0), (.int .i64 0), (.int .i64 0)]) tA_88 tS_88 rfl rfl (CellsL.keep (Ext.trans x_f6 hW_) not_false hc1) ⟨rfl, rfl⟩⟩) hS2 ?_
                  refine xd_pure 26 (some 103) rfl rfl (by kernel_rfl) (v := (.bool (!decide (((-1 : Int) = (-1) ∧ ((i : Nat) : Int) = ((i : Nat)) ∧ (0 : Int) = 0 ∧ (0 : Int) = 0 ∧ ((k : Nat) : Int) = ((k : Nat)) ∧ (0 : Int) = 0 ∧ (0 : Int) = 0 ∧ (0 : Int) = 0 ∧ (0 : Int) = 0))))) (.inl ⟨(wanted_of (j := 11) (b := false) rfl (congrArg some (by simp : (!decide (((-1 : Int) = (-1) ∧ ((i : Nat) : Int) = ((i : Nat)) ∧ (0 : Int) = 0 ∧ (0 : Int) = 0 ∧ ((k : Nat) : Int) = ((k : Nat)) ∧ (0 : Int) = 0 ∧ (0 : Int) = 0 ∧ (0 : Int) = 0 ∧ (0 : Int) = 0))) = false))), fun W_ hW_ => ox_neqF (xs := [(.int .i64 (-1)), (.int .i64 ((i : Nat))), (.int .i64 0), (.int .i64 0), (.int .i64 ((k : Nat))), (.int .i64 0), (.int .i64 0), (.int .i64 0), (.int .i64 0)]) (ys := [(.int .i64 (-1)), (.int .i64 ((i : Nat))), (.int .i64 0), (.int .i64 0), (.int .i64 ((k : Nat))), (.int .i64 0), (.int .i64 0), (.int .i64 0), (.int .i64 0)]) (p := ((-1 : Int) = (-1) ∧ ((i : Nat) : Int) = ((i : Nat)) ∧ (0 : Int) = 0 ∧ (0 : Int) = 0 ∧ ((k : Nat) : Int) = ((k : Nat)) ∧ (0 : Int) = 0 ∧ (0 : Int) = 0 ∧ (0 : Int) = 0 ∧ (0 : Int) = 0)) fS_88 rfl rfl rfl rfl (by simp) ⟨rfl, rfl⟩⟩) ?_
                  refine xd_pure 27 (some 104) rfl rfl (by kernel_rfl) (v := (.bool (!decide (((-1 : Int) = (-1) ∧ ((i : Nat) : Int) = ((i : Nat)) ∧ (0 : Int) = 0 ∧ (0 : Int) = 0 ∧ ((k : Nat) : Int) = ((k : Nat)) ∧ (0 : Int) = 0 ∧ (0 : Int) = 0 ∧ (0 : Int) = 0 ∧ (0 : Int) = 0))))) (.inl ⟨rfl, fun W_ hW_ => ox_pick_f (v := (.bool (!decide (((-1 : Int) = (-1) ∧ ((i : Nat) : Int) = ((i : Nat)) ∧ (0 : Int) = 0 ∧ (0 : Int) = 0 ∧ ((k : Nat) : Int) = ((k : Nat)) ∧ (0 : Int) = 0 ∧ (0 : Int) = 0 ∧ (0 : Int) = 0 ∧ (0 : Int) = 0))))) (congrArg Value.bool (by simp : (!decide (((-1 : Int) = (-1) ∧ ((i : Nat) : Int) = ((i : Nat)) ∧ (0 : Int) = 0 ∧ (0 : Int) = 0 ∧ ((k : Nat) : Int) = ((k : Nat)) ∧ (0 : Int) = 0 ∧ (0 : Int) = 0 ∧ (0 : Int) = 0 ∧ (0 : Int) = 0))) = false)) rfl ⟨rfl, rfl⟩⟩) ?_
                  refine xd_done (by kernel_rfl) ?_ _
                  refine xc_cond_f (congrArg Value.bool (by simp : (!decide (((-1 : Int) = (-1) ∧ ((i : Nat) : Int) = ((i : Nat)) ∧ (0 : Int) = 0 ∧ (0 : Int) = 0 ∧ ((k : Nat) : Int) = ((k : Nat)) ∧ (0 : Int) = 0 ∧ (0 : Int) = 0 ∧ (0 : Int) = 0 ∧ (0 : Int) = 0))) = false)) ?_
                  refine xc_skip ?_
                  refine xc_region ?_
                  refine xl_op (P := Try.prog) (some 75) rfl rfl (ox_move (v := (.int .i64 ((k : Nat)))) g11_f6 ?_)
                  refine xl_op (P := Try.prog) (some 76) rfl rfl (ox_add64 (a := ((k : Nat))) (b := 1) rfl rfl (by omega) ?_)
                  refine xl_op (P := Try.prog) (some 11) rfl rfl (ox_assign (v := (.int .i64 ((k : Nat) + 1))) rfl ?_)
                  refine xl_nil ?_
                  have hsz0 := e6.size
                  exact ⟨rfl, nx - (k + 1), by omega, k + 1, by omega, by omega, g0_f6, g5_f6, g9_f6, g10_f6, (by first | exact rfl | exact (congrArg (Value.int .i64) (by omega))), (Ext.trans x_f6 e6)⟩
                · skip
                  refine xc_exit ?_
                  refine xc_seq ?_
                  refine xc_region ?_
                  refine xl_op (P := Try.prog) (some 12) rfl rfl (ox_assign (v := (.int .i64 0)) rfl ?_)
                  refine xl_nil ?_
                  refine xc_block ?_
                  refine xc_loopN (fun m f W => ∃ (k : Nat), m = 70 - k ∧ k ≤ 70 ∧ f 0 = (.slice (some ⟨gA, 0, none⟩) l.length c) ∧ f 5 = (.slice (some ⟨gG, 0, none⟩) l.length cg) ∧ f 9 = (.int .i64 ((i : Nat))) ∧ f 10 = (.int .i64 (((nx : Nat) : Int))) ∧ f 12 = (.int .i64 ((k : Nat))) ∧ Ext w4 W) (70) ?_ ?_
                  · exact ⟨0, by omega, by omega, g0_f6, g5_f6, g9_f6, g10_f6, (by first | exact rfl | exact (congrArg (Value.int .i64) (by omega))), x_f6⟩
                  · rintro m f7 w13 ⟨k, hm, hk, g0_f7, g5_f7, g9_f7, g10_f7, g12_f7, x_f7⟩
                    have hzY := x_f7.size
                    refine xc_seq ?_
                    refine xc_seq ?_
                    refine xc_region ?_
                    refine xl_op (P := Try.prog) (some 105) rfl rfl (ox_move (v := (.int .i64 ((k : Nat)))) g12_f7 ?_)
                    refine xl_op (P := Try.prog) (some 106) rfl rfl (ox_lss (k := .i64) (a := ((k : Nat))) (b := 70) rfl rfl ?_)
                    refine xl_nil ?_
                    refine xc_if (p := ((k : Nat) : Int) < 70) rfl (fun h7 => ?_) (fun h7 => ?_)
                    · skip
                      have hRgy : Vx.Own w4 88 9 (.slice Ay (nx + 70) cy) (nx + 70) (nC ((mkO (-1)) i) nx ++ nC ((mkO (-2)) i) 70) := hoy
                      obtain ⟨gy, c9gy, heqgy, _⟩ := hRgy.some_of (by omega)
                      simp only [Value.slice.injEq, true_and] at heqgy
                      obtain ⟨rfl, rfl⟩ := heqgy
                      have hc2 := Own.nc2 hRgy (fun _ => rfl) (fun _ => rfl) (k := k) (by omega)
                      refine xc_skip ?_
                      refine xc_seq ?_
                      refine xc_block ?_
                      refine xc_seq ?_
                      refine xc_region ?_
                      refine xl_op (P := Try.prog) (some 109) rfl rfl (ox_move (v := (.slice (some ⟨gG, 0, none⟩) l.length cg)) g5_f7 ?_)
                      refine xl_op (P := Try.prog) (some 110) rfl rfl (ox_move (v := (.int .i64 ((i : Nat)))) g9_f7 ?_)
                      refine xl_op (P := Try.prog) (some 111) rfl rfl (ox_indexAddr (b := gG) (o := 0) (i := ((i : Nat))) tE_63 rfl rfl (by omega) (by omega) ?_)
                      refine xl_op (P := Try.prog) (some 112) rfl rfl (ox_load (v := (.slice (some ⟨gy, 0, none⟩) (nx + 70) cy)) tA_54 rfl (Ext.cell (Own.rowv hG3 hy) x_f7) ?_)
                      refine xl_op (P := Try.prog) (some 113) rfl rfl (ox_move (v := (.int .i64 (((nx : Nat) : Int)))) g10_f7 ?_)
                      refine xl_op (P := Try.prog) (some 114) rfl rfl (ox_move (v := (.int .i64 ((k : Nat)))) g12_f7 ?_)
                      refine xl_op (P := Try.prog) (some 115) rfl rfl (ox_add64 (a := (((nx : Nat) : Int))) (b := ((k : Nat))) rfl rfl (by omega) ?_)
                      refine xl_op (P := Try.prog) (some 116) rfl rfl (ox_indexAddr (b := gy) (o := 0) (i := (((nx : Nat) : Int) + ((k : Nat)))) tE_54 rfl rfl (by omega) (by omega) ?_)
                      refine xl_op (P := Try.prog) (some 117) rfl rfl (ox_loadN (vs := [(.int .i64 (-2)), (.int .i64 ((i : Nat))), (.int .i64 0), (.int .i64 0), (.int .i64 ((k : Nat))), (.int .i64 0), (.int .i64 0), (.int .i64 0), (.int .i64 0)]) tA_88 tS_88 rfl rfl (CellsL.keep x_f7 not_false hc2) ?_)
                      refine xl_op (P := Try.prog) (some 118) rfl rfl (ox_move (v := (.int .i64 ((i : Nat)))) g9_f7 ?_)
                      refine xl_op (P := Try.prog) (some 119) rfl rfl (ox_move (v := (.int .i64 ((k : Nat)))) g12_f7 ?_)
                      refine xl_op (P := Try.prog) (some 120) rfl rfl (ox_mkStruct (ps := [(0, (.int .i64 (-2))), (1, (.int .i64 ((i : Nat)))), (4, (.int .i64 ((k : Nat))))]) (cs := #[(.int .i64 (-2)), (.int .i64 ((i : Nat))), (.int .i64 0), (.int .i64 0), (.int .i64 ((k : Nat))), (.int .i64 0), (.int .i64 0), (.int .i64 0), (.int .i64 0)]) tZ_88 tP_88 rfl (by kernel_rfl) ?_)
                      refine xl_op (P := Try.prog) (some 121) rfl rfl (ox_neqF (xs := [(.int .i64 (-2)), (.int .i64 ((i : Nat))), (.int .i64 0), (.int .i64 0), (.int .i64 ((k : Nat))), (.int .i64 0), (.int .i64 0), (.int .i64 0), (.int .i64 0)]) (ys := [(.int .i64 (-2)), (.int .i64 ((i : Nat))), (.int .i64 0), (.int .i64 0), (.int .i64 ((k : Nat))), (.int .i64 0), (.int .i64 0), (.int .i64 0), (.int .i64 0)]) (p := ((-2 : Int) = (-2) ∧ ((i : Nat) : Int) = ((i : Nat)) ∧ (0 : Int) = 0 ∧ (0 : Int) = 0 ∧ ((k : Nat) : Int) = ((k : Nat)) ∧ (0 : Int) = 0 ∧ (0 : Int) = 0 ∧ (0 : Int) = 0 ∧ (0 : Int) = 0)) fS_88 rfl rfl rfl rfl (by simp) ?_)
                      refine xl_nil ?_
                      refine xc_cond_f (congrArg Value.bool (by simp : (!decide (((-2 : Int) = (-2) ∧ ((i : Nat) : Int) = ((i : Nat)) ∧ (0 : Int) = 0 ∧ (0 : Int) = 0 ∧ ((k : Nat) : Int) = ((k : Nat)) ∧ (0 : Int) = 0 ∧ (0 : Int) = 0 ∧ (0 : Int) = 0 ∧ (0 : Int) = 0))) = false)) ?_
                      refine xc_skip ?_
                      refine xc_region ?_
                      refine xl_op (P := Try.prog) (some 107) rfl rfl (ox_move (v := (.int .i64 ((k : Nat)))) g12_f7 ?_)
                      refine xl_op (P := Try.prog) (some 108) rfl rfl (ox_add64 (a := ((k : Nat))) (b := 1) rfl rfl (by omega) ?_)
                      refine xl_op (P := Try.prog) (some 12) rfl rfl (ox_assign (v := (.int .i64 ((k : Nat) + 1))) rfl ?_)
                      refine xl_nil ?_
                      exact ⟨rfl, 70 - (k + 1), by omega, k + 1, by omega, by omega, g0_f7, g5_f7, g9_f7, g10_f7, (by first | exact rfl | exact (congrArg (Value.int .i64) (by omega))), x_f7⟩
                    · skip
                      refine xc_exit ?_
                      refine xc_region ?_
                      refine xl_op (P := Try.prog) (some 65) rfl rfl (ox_move (v := (.int .i64 ((i : Nat)))) g9_f7 ?_)
                      refine xl_op (P := Try.prog) (some 66) rfl rfl (ox_add64 (a := ((i : Nat))) (b := 1) rfl rfl (by omega) ?_)
                      refine xl_op (P := Try.prog) (some 9) rfl rfl (ox_assign (v := (.int .i64 ((i : Nat) + 1))) rfl ?_)
                      refine xl_nil ?_
                      exact ⟨rfl, l.length - (i + 1), by omega, i + 1, by omega, by omega, g0_f7, g5_f7, (by first | exact rfl | exact (congrArg (Value.int .i64) (by omega))), x_f7⟩
            · skip
              refine xc_exit ?_
              refine xc_seq ?_
              refine xc_region ?_
              refine xl_op (P := Try.prog) (some 2) rfl rfl (ox_assign (v := (.bool true)) rfl ?_)
              refine xl_nil ?_
              refine xc_ret ?_
              change leaves _ _ _ _ _ _ _
              refine leaves_nil (n := 122) (rs := [.tmp 2]) (vs := [(.bool true)]) rfl ⟨⟨by decide, rfl⟩, trivial⟩ ?_
              exact ⟨rfl, Chg.ext hc3 x_f5⟩

end Go.Proofs.Ythhbnodnpajljaa
