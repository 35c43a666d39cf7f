/-
  Move, the program's and the document's: both tell the same. No conditions.
-/
import Derived.Test.YthhbnodnpajljaaVxi
import Derived.Test.YthhbnodnpajljaaRows
import Derived.Test.YthhbnodnpajljaaDed
import Derived.Test.YthhbnodnpajljaaDa
set_option linter.unusedVariables false
set_option linter.unusedSimpArgs false
set_option maxRecDepth 100000
set_option maxHeartbeats 4000000
namespace Go.Proofs.Ythhbnodnpajljaa
open Go Go.RowKit Go.Vx


theorem pf_49 : plainF Try.prog 49 = true := by kernel_rfl
theorem tA_3 : isAggT Try.prog 3 = some false := by kernel_rfl
theorem tA_57 : isAggT Try.prog 57 = some false := by kernel_rfl
theorem tA_59 : isAggT Try.prog 59 = some true := by kernel_rfl
theorem tE_43 : sliceT Try.prog 43 = some (59, 3, 40, (.agg #[(.int .i64 0), (.int .i64 0), (.slice none 0 0)])) := by kernel_rfl
theorem tF_59_0 : fieldT Try.prog 59 0 = some 0 := by kernel_rfl
theorem tF_59_1 : fieldT Try.prog 59 1 = some 1 := by kernel_rfl
theorem tF_59_2 : fieldT Try.prog 59 2 = some 2 := by kernel_rfl
theorem tS_59 : sizeT Try.prog 59 = some 3 := by kernel_rfl
theorem tU_43 : Try.prog.underlying 43 = some (.slice 59) := by kernel_rfl
theorem tU_57 : Try.prog.underlying 57 = some (.slice 5) := by kernel_rfl
theorem tZ_59 : zeroOf Try.prog 59 = some (.agg #[(.int .i64 0), (.int .i64 0), (.slice none 0 0)]) := by kernel_rfl

theorem move_calls (p0 bias : Int) (l : List Ed) (A : Option Addr) (c : Nat) (w : World) (hA : RowA w A (edC l)) :
    Calls Try.prog 19 #[(.int .i64 p0), (.int .i64 bias), (.slice A l.length c)] w (Ret (fun v w' => v = .tuple #[.int .i64 (move p0 bias (l.map Ed.e3)).1, .int .i64 (move p0 bias (l.map Ed.e3)).2] ∧ Ext w w')) := by
  refine calls_xc (n := 72) (f := fun s_ => [(.int .i64 p0), (.int .i64 bias), (.slice A l.length c)].getD s_ undef) Try.func19 rfl rfl (by simp) (fun s_ => by simp) ?_
  refine xc_seq ?_
  refine xc_region ?_
  refine xl_op (P := Try.prog) (some 6) rfl rfl (ox_assign (v := (.int .i64 0)) rfl ?_)
  refine xl_op (P := Try.prog) (some 7) rfl rfl (ox_assign (v := (.int .i64 0)) rfl ?_)
  refine xl_nil ?_
  refine xc_seq ?_
  refine xc_block ?_
  refine xc_seq ?_
  refine xc_region ?_
  refine xl_op (P := Try.prog) (some 11) rfl rfl (ox_move (v := (.int .i64 p0)) rfl ?_)
  refine xl_op (P := Try.prog) (some 12) rfl rfl (ox_callE (al := [(.int .i64 p0)]) pf_49 rfl (ret_mono (large_calls p0 _) ?_))
  rintro _ _ ⟨rfl, rfl⟩
  refine xl_op (P := Try.prog) (some 10) rfl rfl (ox_assign (v := (.bool (decide (p0 < 0 ∨ 262144 < p0)))) rfl ?_)
  refine xl_nil ?_
  refine xc_if (p := p0 < 0 ∨ 262144 < p0) rfl (fun h1 => ?_) (fun h1 => ?_)
  · skip
    refine xc_seq ?_
    refine xc_region ?_
    refine xl_op (P := Try.prog) (some 6) rfl rfl (ox_assign (v := (.int .i64 0)) rfl ?_)
    refine xl_op (P := Try.prog) (some 7) rfl rfl (ox_assign (v := (.int .i64 151)) rfl ?_)
    refine xl_nil ?_
    refine xc_ret ?_
    change leaves _ _ _ _ _ _ _
    refine leaves_nil (n := 72) (rs := [.tmp 6, .tmp 7]) (vs := [(.int .i64 0), (.int .i64 151)]) rfl ⟨⟨by decide, rfl⟩, ⟨by decide, rfl⟩, trivial⟩ ?_
    exact ⟨by unfold move; rw [if_pos (by unfold big; omega)]; rfl, Chg.refl _ _⟩
  · skip
    refine xc_seq ?_
    refine xc_region ?_
    refine xl_op (P := Try.prog) (some 14) rfl rfl (ox_move (v := (.slice A l.length c)) rfl ?_)
    refine xl_op (P := Try.prog) (some 15) rfl rfl (ox_len (A := A) (n := l.length) (cp := c) rfl tU_43 rfl ?_)
    refine xl_op (P := Try.prog) (some 16) rfl rfl (ox_gtr (k := .i64) (a := (((l.length : Nat) : Int))) (b := 4096) rfl rfl ?_)
    refine xl_op (P := Try.prog) (some 13) rfl rfl (ox_assign (v := (.bool (decide ((4096 : Int) < (((l.length : Nat) : Int)))))) rfl ?_)
    refine xl_nil ?_
    refine xc_if (p := (4096 : Int) < (((l.length : Nat) : Int))) rfl (fun h2 => ?_) (fun h2 => ?_)
    · skip
      refine xc_seq ?_
      refine xc_region ?_
      refine xl_op (P := Try.prog) (some 6) rfl rfl (ox_assign (v := (.int .i64 0)) rfl ?_)
      refine xl_op (P := Try.prog) (some 7) rfl rfl (ox_assign (v := (.int .i64 2)) rfl ?_)
      refine xl_nil ?_
      refine xc_ret ?_
      change leaves _ _ _ _ _ _ _
      refine leaves_nil (n := 72) (rs := [.tmp 6, .tmp 7]) (vs := [(.int .i64 0), (.int .i64 2)]) rfl ⟨⟨by decide, rfl⟩, ⟨by decide, rfl⟩, trivial⟩ ?_
      exact ⟨by unfold move; rw [if_neg (by unfold big; omega), if_pos (by simp; omega)]; rfl, Chg.refl _ _⟩
    · skip
      refine xc_skip ?_
      refine xc_seq ?_
      refine xc_seq ?_
      refine xc_region ?_
      refine xl_op (P := Try.prog) (some 17) rfl rfl (ox_move (v := (.slice A l.length c)) rfl ?_)
      refine xl_op (P := Try.prog) (some 18) rfl rfl (ox_len (A := A) (n := l.length) (cp := c) rfl tU_43 rfl ?_)
      refine xl_op (P := Try.prog) (some 19) rfl rfl (ox_move (v := (.int .i64 0)) rfl ?_)
      refine xl_nil ?_
      refine xc_block ?_
      refine xc_loopN (fun m f W => ∃ (i : Nat) (p : Int), m = l.length - i ∧ i ≤ l.length ∧ (0 ≤ p ∧ p ≤ 262144) ∧ mvGo bias p0 (l.map Ed.e3) = mvGo bias p ((l.map Ed.e3).drop i) ∧ f 0 = (.int .i64 p) ∧ f 1 = (.int .i64 bias) ∧ f 17 = (.slice A l.length c) ∧ f 19 = (.int .i64 ((i : Nat))) ∧ f 18 = (.int .i64 ((l.length : Nat))) ∧ Ext w W) (l.length) ?_ ?_
      · exact ⟨0, p0, by omega, by omega, by omega, by simp, (by first | exact rfl | exact (congrArg (Value.int .i64) (by omega))), rfl, rfl, (by first | exact rfl | exact (congrArg (Value.int .i64) (by omega))), (by first | exact rfl | exact (congrArg (Value.int .i64) (by omega))), (Chg.refl _ _)⟩
      · rintro m f1 w1 ⟨i, p, hm, hi, hp, hres, g0_f1, g1_f1, g17_f1, g19_f1, g18_f1, e_f1⟩
        have hzE := e_f1.size
        have hln : (l.map Ed.e3).length = l.length := by simp
        refine xc_seq ?_
        refine xc_region ?_
        refine xl_op (P := Try.prog) (some 20) rfl rfl (ox_lss (k := .i64) (a := ((i : Nat))) (b := ((l.length : Nat))) g19_f1 g18_f1 ?_)
        refine xl_nil ?_
        refine xc_seq ?_
        refine xc_if (p := ((i : Nat) : Int) < ((l.length : Nat))) rfl (fun h3 => ?_) (fun h3 => ?_)
        · skip
          have hil : i < l.length := by omega
          obtain ⟨e, he⟩ := get_ex (l := l) (i := i) hil
          obtain ⟨g, o, rfl⟩ := hA.ex (by intro hh; cases l with | nil => simp at he | cons q l => simp [edC, Ed.cs] at hh)
          have hce : CellsL w1 g (o + i * 3) e.cs := CellsL.keep e_f1 not_false (cellsL_flat Ed.cs 3 (fun _ => rfl) hA.cells he)
          have hdr := drop_get (l := l.map Ed.e3) (i := i) (e := e.e3) (by simp [he])
          refine xc_skip ?_
          refine xc_seq ?_
          refine xc_block ?_
          refine xc_seq ?_
          refine xc_region ?_
          refine xl_op (P := Try.prog) (some 21) rfl rfl (ox_indexAddr (b := g) (o := o) (i := ((i : Nat))) tE_43 g17_f1 g19_f1 (by omega) (by omega) ?_)
          refine xl_op (P := Try.prog) (some 22) rfl rfl (ox_loadN (vs := [(.int .i64 e.pl), (.int .i64 e.del), (.slice e.A e.n e.c)]) tA_59 tS_59 rfl rfl (by simpa [Ed.cs] using hce) ?_)
          refine xl_op (P := Try.prog) (some 9) rfl rfl (ox_alloc tZ_59 ?_)
          intro w2 e1 z1 b1
          replace b1 : Blk w2 w1.heap.size #[(.int .i64 0), (.int .i64 0), (.slice none 0 0)] 59 := b1
          refine xl_op (P := Try.prog) none rfl rfl (ox_store (n := 3) (vs := [(.int .i64 e.pl), (.int .i64 e.del), (.slice e.A e.n e.c)]) tS_59 rfl (v := (.agg #[(.int .i64 e.pl), (.int .i64 e.del), (.slice e.A e.n e.c)])) rfl rfl rfl rfl b1 (Nat.le_of_ble_eq_true rfl) ?_)
          intro w3 e2 z2 b2
          replace b2 : Blk w3 w1.heap.size #[(.int .i64 e.pl), (.int .i64 e.del), (.slice e.A e.n e.c)] 59 := blk_full b2 rfl
          refine xl_nil ?_
          refine xc_seq ?_
          refine xc_block ?_
          refine xc_seq ?_
          refine xc_region ?_
          refine xl_op (P := Try.prog) (some 24) rfl rfl (ox_fieldAddr (b := w1.heap.size) (o := 0) tF_59_0 rfl ?_)
          refine xl_op (P := Try.prog) (some 25) rfl rfl (ox_load (v := (.int .i64 e.pl)) tA_3 rfl (b2.cell rfl) ?_)
          refine xl_op (P := Try.prog) (some 26) rfl rfl (ox_callE (al := [(.int .i64 e.pl)]) pf_49 rfl (ret_mono (large_calls e.pl _) ?_))
          rintro _ _ ⟨rfl, rfl⟩
          refine xl_op (P := Try.prog) (some 27) rfl rfl (ox_move (v := (.bool (decide (e.pl < 0 ∨ 262144 < e.pl)))) rfl ?_)
          refine xl_may (P := Try.prog) (some 28) (j := 3) (b := false) (((decide (e.pl < 0 ∨ 262144 < e.pl))) = false) (.bool (decide (e.pl < 0 ∨ 262144 < e.pl))) (.pointer (some ⟨w1.heap.size, 1, none⟩)) rfl rfl rfl (may_b ((decide (e.pl < 0 ∨ 262144 < e.pl))) false) (fun hp => ox_fieldAddr (b := w1.heap.size) (o := 0) tF_59_1 rfl ⟨rfl, rfl⟩) ?_
          refine xl_may (P := Try.prog) (some 29) (j := 3) (b := false) (((decide (e.pl < 0 ∨ 262144 < e.pl))) = false) (.bool (decide (e.pl < 0 ∨ 262144 < e.pl))) (.int .i64 e.del) rfl rfl rfl (may_b ((decide (e.pl < 0 ∨ 262144 < e.pl))) false) (fun hp => ox_load (v := (.int .i64 e.del)) tA_3 (if_pos (α := Value) (t := (.pointer (some ⟨w1.heap.size, 1, none⟩))) (e := undef) hp) (b2.cell rfl) ⟨rfl, rfl⟩) ?_
          refine xl_may (P := Try.prog) (some 30) (j := 3) (b := false) (((decide (e.pl < 0 ∨ 262144 < e.pl))) = false) (.bool (decide (e.pl < 0 ∨ 262144 < e.pl))) (.bool (decide (e.del < 0 ∨ 262144 < e.del))) rfl rfl rfl (may_b ((decide (e.pl < 0 ∨ 262144 < e.pl))) false) (fun hp => ox_callE (al := [(.int .i64 e.del)]) pf_49 (cons_eq (if_pos (α := Value) (t := (.int .i64 e.del)) (e := undef) hp) rfl) (ret_mono (large_calls e.del _) (by rintro _ _ ⟨rfl, rfl⟩; exact ⟨rfl, rfl⟩))) ?_
          refine xl_op (P := Try.prog) (some 31) rfl rfl (ox_pick_or (a := ((decide (e.pl < 0 ∨ 262144 < e.pl)))) (b := ((decide (e.del < 0 ∨ 262144 < e.del)))) rfl rfl (fun ha => (if_pos (α := Value) (t := (.bool (decide (e.del < 0 ∨ 262144 < e.del)))) (e := undef) ha)) ?_)
          refine xl_op (P := Try.prog) (some 32) rfl rfl (ox_move (v := (.bool (((decide (e.pl < 0 ∨ 262144 < e.pl))) || ((decide (e.del < 0 ∨ 262144 < e.del)))))) rfl ?_)
          refine xl_may (P := Try.prog) (some 33) (j := 8) (b := false) (((((decide (e.pl < 0 ∨ 262144 < e.pl))) || ((decide (e.del < 0 ∨ 262144 < e.del))))) = false) (.bool (((decide (e.pl < 0 ∨ 262144 < e.pl))) || ((decide (e.del < 0 ∨ 262144 < e.del))))) (.pointer (some ⟨w1.heap.size, 2, none⟩)) rfl rfl rfl (may_b ((((decide (e.pl < 0 ∨ 262144 < e.pl))) || ((decide (e.del < 0 ∨ 262144 < e.del))))) false) (fun hp => ox_fieldAddr (b := w1.heap.size) (o := 0) tF_59_2 rfl ⟨rfl, rfl⟩) ?_
          refine xl_may (P := Try.prog) (some 34) (j := 8) (b := false) (((((decide (e.pl < 0 ∨ 262144 < e.pl))) || ((decide (e.del < 0 ∨ 262144 < e.del))))) = false) (.bool (((decide (e.pl < 0 ∨ 262144 < e.pl))) || ((decide (e.del < 0 ∨ 262144 < e.del))))) (.slice e.A e.n e.c) rfl rfl rfl (may_b ((((decide (e.pl < 0 ∨ 262144 < e.pl))) || ((decide (e.del < 0 ∨ 262144 < e.del))))) false) (fun hp => ox_load (v := (.slice e.A e.n e.c)) tA_57 (if_pos (α := Value) (t := (.pointer (some ⟨w1.heap.size, 2, none⟩))) (e := undef) hp) (b2.cell rfl) ⟨rfl, rfl⟩) ?_
          refine xl_may (P := Try.prog) (some 35) (j := 8) (b := false) (((((decide (e.pl < 0 ∨ 262144 < e.pl))) || ((decide (e.del < 0 ∨ 262144 < e.del))))) = false) (.bool (((decide (e.pl < 0 ∨ 262144 < e.pl))) || ((decide (e.del < 0 ∨ 262144 < e.del))))) (.int .i64 (((e.n : Nat) : Int))) rfl rfl rfl (may_b ((((decide (e.pl < 0 ∨ 262144 < e.pl))) || ((decide (e.del < 0 ∨ 262144 < e.del))))) false) (fun hp => ox_len (A := e.A) (n := e.n) (cp := e.c) rfl tU_57 (if_pos (α := Value) (t := (.slice e.A e.n e.c)) (e := undef) hp) ⟨rfl, rfl⟩) ?_
          refine xl_may (P := Try.prog) (some 36) (j := 8) (b := false) (((((decide (e.pl < 0 ∨ 262144 < e.pl))) || ((decide (e.del < 0 ∨ 262144 < e.del))))) = false) (.bool (((decide (e.pl < 0 ∨ 262144 < e.pl))) || ((decide (e.del < 0 ∨ 262144 < e.del))))) (.bool (decide ((262144 : Int) < (((e.n : Nat) : Int))))) rfl rfl rfl (may_b ((((decide (e.pl < 0 ∨ 262144 < e.pl))) || ((decide (e.del < 0 ∨ 262144 < e.del))))) false) (fun hp => ox_gtr (k := .i64) (a := (((e.n : Nat) : Int))) (b := 262144) (if_pos (α := Value) (t := (.int .i64 (((e.n : Nat) : Int)))) (e := undef) hp) rfl ⟨rfl, rfl⟩) ?_
          refine xl_op (P := Try.prog) (some 37) rfl rfl (ox_pick_or (a := ((((decide (e.pl < 0 ∨ 262144 < e.pl))) || ((decide (e.del < 0 ∨ 262144 < e.del)))))) (b := ((decide ((262144 : Int) < (((e.n : Nat) : Int)))))) rfl rfl (fun ha => (if_pos (α := Value) (t := (.bool (decide ((262144 : Int) < (((e.n : Nat) : Int)))))) (e := undef) ha)) ?_)
          refine xl_op (P := Try.prog) (some 23) rfl rfl (ox_assign (v := (.bool (((((decide (e.pl < 0 ∨ 262144 < e.pl))) || ((decide (e.del < 0 ∨ 262144 < e.del))))) || ((decide ((262144 : Int) < (((e.n : Nat) : Int)))))))) rfl ?_)
          refine xl_nil ?_
          refine xc_cond (b := (((((decide (e.pl < 0 ∨ 262144 < e.pl))) || ((decide (e.del < 0 ∨ 262144 < e.del))))) || ((decide ((262144 : Int) < (((e.n : Nat) : Int))))))) rfl (fun h4 => ?_) (fun h4 => ?_)
          · skip
            have h4' := h4
            try simp only [Bool.or_eq_true, Bool.and_eq_true, decide_eq_true_eq, Bool.or_eq_false_iff, Bool.and_eq_false_iff, decide_eq_false_iff_not, Bool.not_eq_true', Bool.not_eq_false'] at h4'
            refine xc_seq ?_
            refine xc_region ?_
            refine xl_op (P := Try.prog) (some 6) rfl rfl (ox_assign (v := (.int .i64 0)) rfl ?_)
            refine xl_op (P := Try.prog) (some 7) rfl rfl (ox_assign (v := (.int .i64 1)) rfl ?_)
            refine xl_nil ?_
            refine xc_ret ?_
            change leaves _ _ _ _ _ _ _
            refine leaves_nil (n := 72) (rs := [.tmp 6, .tmp 7]) (vs := [(.int .i64 0), (.int .i64 1)]) rfl ⟨⟨by decide, rfl⟩, ⟨by decide, rfl⟩, trivial⟩ ?_
            exact ⟨by unfold move; rw [if_neg (by unfold big; omega), if_neg (by rw [hln]; omega), hres, hdr, mvGo_bad (by unfold big; omega)]; rfl, (Ext.chg1 (Ext.trans e_f1 e1) e2 (by omega))⟩
          · skip
            have h4' := h4
            try simp only [Bool.or_eq_true, Bool.and_eq_true, decide_eq_true_eq, Bool.or_eq_false_iff, Bool.and_eq_false_iff, decide_eq_false_iff_not, Bool.not_eq_true', Bool.not_eq_false'] at h4'
            refine xc_seq ?_
            refine xc_region ?_
            refine xl_op (P := Try.prog) (some 39) rfl rfl (ox_move (v := (.int .i64 p)) g0_f1 ?_)
            refine xl_op (P := Try.prog) (some 40) rfl rfl (ox_fieldAddr (b := w1.heap.size) (o := 0) tF_59_0 rfl ?_)
            refine xl_op (P := Try.prog) (some 41) rfl rfl (ox_load (v := (.int .i64 e.pl)) tA_3 rfl (b2.cell rfl) ?_)
            refine xl_op (P := Try.prog) (some 42) rfl rfl (ox_fieldAddr (b := w1.heap.size) (o := 0) tF_59_1 rfl ?_)
            refine xl_op (P := Try.prog) (some 43) rfl rfl (ox_load (v := (.int .i64 e.del)) tA_3 rfl (b2.cell rfl) ?_)
            refine xl_op (P := Try.prog) (some 44) rfl rfl (ox_add64 (a := e.pl) (b := e.del) rfl rfl (by omega) ?_)
            refine xl_op (P := Try.prog) (some 45) rfl rfl (ox_gtr (k := .i64) (a := p) (b := (e.pl + e.del)) rfl rfl ?_)
            refine xl_op (P := Try.prog) (some 38) rfl rfl (ox_assign (v := (.bool (decide ((e.pl + e.del : Int) < p)))) rfl ?_)
            refine xl_nil ?_
            refine xc_if (p := (e.pl + e.del : Int) < p) rfl (fun h5 => ?_) (fun h5 => ?_)
            · skip
              refine xc_region ?_
              refine xl_op (P := Try.prog) (some 46) rfl rfl (ox_move (v := (.int .i64 p)) g0_f1 ?_)
              refine xl_op (P := Try.prog) (some 47) rfl rfl (ox_fieldAddr (b := w1.heap.size) (o := 0) tF_59_2 rfl ?_)
              refine xl_op (P := Try.prog) (some 48) rfl rfl (ox_load (v := (.slice e.A e.n e.c)) tA_57 rfl (b2.cell rfl) ?_)
              refine xl_op (P := Try.prog) (some 49) rfl rfl (ox_len (A := e.A) (n := e.n) (cp := e.c) rfl tU_57 rfl ?_)
              refine xl_op (P := Try.prog) (some 50) rfl rfl (ox_fieldAddr (b := w1.heap.size) (o := 0) tF_59_1 rfl ?_)
              refine xl_op (P := Try.prog) (some 51) rfl rfl (ox_load (v := (.int .i64 e.del)) tA_3 rfl (b2.cell rfl) ?_)
              refine xl_op (P := Try.prog) (some 52) rfl rfl (ox_sub64 (a := (((e.n : Nat) : Int))) (b := e.del) rfl rfl (by omega) ?_)
              refine xl_op (P := Try.prog) (some 53) rfl rfl (ox_add64 (a := p) (b := (((e.n : Nat) : Int) - e.del)) rfl rfl (by omega) ?_)
              refine xl_op (P := Try.prog) (some 0) rfl rfl (ox_assign (v := (.int .i64 (p + (((e.n : Nat) : Int) - e.del)))) rfl ?_)
              refine xl_nil ?_
              refine xc_seq ?_
              refine xc_region ?_
              refine xl_op (P := Try.prog) (some 68) rfl rfl (ox_move (v := (.int .i64 (p + (((e.n : Nat) : Int) - e.del)))) rfl ?_)
              refine xl_op (P := Try.prog) (some 69) rfl rfl (ox_callE (al := [(.int .i64 (p + (((e.n : Nat) : Int) - e.del)))]) pf_49 rfl (ret_mono (large_calls (p + (((e.n : Nat) : Int) - e.del)) _) ?_))
              rintro _ _ ⟨rfl, rfl⟩
              refine xl_nil ?_
              refine xc_if (p := (p + (((e.n : Nat) : Int) - e.del)) < 0 ∨ 262144 < (p + (((e.n : Nat) : Int) - e.del))) rfl (fun h6 => ?_) (fun h6 => ?_)
              · skip
                refine xc_seq ?_
                refine xc_region ?_
                refine xl_op (P := Try.prog) (some 6) rfl rfl (ox_assign (v := (.int .i64 0)) rfl ?_)
                refine xl_op (P := Try.prog) (some 7) rfl rfl (ox_assign (v := (.int .i64 151)) rfl ?_)
                refine xl_nil ?_
                refine xc_ret ?_
                change leaves _ _ _ _ _ _ _
                refine leaves_nil (n := 72) (rs := [.tmp 6, .tmp 7]) (vs := [(.int .i64 0), (.int .i64 151)]) rfl ⟨⟨by decide, rfl⟩, ⟨by decide, rfl⟩, trivial⟩ ?_
                have hmv : mv1 bias p e.pl e.del e.n = p + (((e.n : Nat) : Int) - e.del) := by unfold mv1; repeat' (split) <;> omega
                exact ⟨by unfold move; rw [if_neg (by unfold big; omega), if_neg (by rw [hln]; omega), hres, hdr, mvGo_far (by unfold big; omega) (by rw [hmv]; unfold big; omega)]; rfl, (Ext.chg1 (Ext.trans e_f1 e1) e2 (by omega))⟩
              · skip
                refine xc_skip ?_
                refine xc_region ?_
                refine xl_op (P := Try.prog) (some 70) rfl rfl (ox_add64 (a := ((i : Nat))) (b := 1) g19_f1 rfl (by omega) ?_)
                refine xl_op (P := Try.prog) (some 19) rfl rfl (ox_move (v := (.int .i64 ((i : Nat) + 1))) rfl ?_)
                refine xl_nil ?_
                have hmv : mv1 bias p e.pl e.del e.n = p + (((e.n : Nat) : Int) - e.del) := by unfold mv1; repeat' (split) <;> omega
                have hnx : mvGo bias p ((l.map Ed.e3).drop i) = mvGo bias (p + (((e.n : Nat) : Int) - e.del)) ((l.map Ed.e3).drop (i + 1)) := by rw [hdr, mvGo_on (by unfold big; omega) (by rw [hmv]; unfold big; omega), hmv]
                exact ⟨rfl, l.length - (i + 1), by omega, i + 1, p + (((e.n : Nat) : Int) - e.del), by omega, by omega, by omega, by rw [hres, hnx], (by first | exact rfl | exact (congrArg (Value.int .i64) (by omega))), g1_f1, g17_f1, (by first | exact rfl | exact (congrArg (Value.int .i64) (by omega))), g18_f1, (Ext.chg1 (Ext.trans e_f1 e1) e2 (by omega))⟩
            · skip
              refine xc_seq ?_
              refine xc_region ?_
              refine xl_op (P := Try.prog) (some 55) rfl rfl (ox_move (v := (.int .i64 p)) g0_f1 ?_)
              refine xl_op (P := Try.prog) (some 56) rfl rfl (ox_fieldAddr (b := w1.heap.size) (o := 0) tF_59_0 rfl ?_)
              refine xl_op (P := Try.prog) (some 57) rfl rfl (ox_load (v := (.int .i64 e.pl)) tA_3 rfl (b2.cell rfl) ?_)
              refine xl_op (P := Try.prog) (some 58) rfl rfl (ox_geq (k := .i64) (a := p) (b := e.pl) rfl rfl ?_)
              refine xl_op (P := Try.prog) (some 54) rfl rfl (ox_assign (v := (.bool (decide ((e.pl : Int) ≤ p)))) rfl ?_)
              refine xl_nil ?_
              refine xc_if (p := (e.pl : Int) ≤ p) rfl (fun h7 => ?_) (fun h7 => ?_)
              · skip
                refine xc_seq ?_
                refine xc_region ?_
                refine xl_op (P := Try.prog) (some 59) rfl rfl (ox_fieldAddr (b := w1.heap.size) (o := 0) tF_59_0 rfl ?_)
                refine xl_op (P := Try.prog) (some 60) rfl rfl (ox_load (v := (.int .i64 e.pl)) tA_3 rfl (b2.cell rfl) ?_)
                refine xl_op (P := Try.prog) (some 0) rfl rfl (ox_assign (v := (.int .i64 e.pl)) rfl ?_)
                refine xl_nil ?_
                refine xc_seq ?_
                refine xc_region ?_
                refine xl_op (P := Try.prog) (some 61) rfl rfl (ox_move (v := (.int .i64 bias)) g1_f1 ?_)
                refine xl_op (P := Try.prog) (some 62) rfl rfl (ox_geq (k := .i64) (a := bias) (b := 0) rfl rfl ?_)
                refine xl_nil ?_
                refine xc_if (p := (0 : Int) ≤ bias) rfl (fun h8 => ?_) (fun h8 => ?_)
                · skip
                  refine xc_region ?_
                  refine xl_op (P := Try.prog) (some 63) rfl rfl (ox_move (v := (.int .i64 e.pl)) rfl ?_)
                  refine xl_op (P := Try.prog) (some 64) rfl rfl (ox_fieldAddr (b := w1.heap.size) (o := 0) tF_59_2 rfl ?_)
                  refine xl_op (P := Try.prog) (some 65) rfl rfl (ox_load (v := (.slice e.A e.n e.c)) tA_57 rfl (b2.cell rfl) ?_)
                  refine xl_op (P := Try.prog) (some 66) rfl rfl (ox_len (A := e.A) (n := e.n) (cp := e.c) rfl tU_57 rfl ?_)
                  refine xl_op (P := Try.prog) (some 67) rfl rfl (ox_add64 (a := e.pl) (b := (((e.n : Nat) : Int))) rfl rfl (by omega) ?_)
                  refine xl_op (P := Try.prog) (some 0) rfl rfl (ox_assign (v := (.int .i64 (e.pl + (((e.n : Nat) : Int))))) rfl ?_)
                  refine xl_nil ?_
                  refine xc_seq ?_
                  refine xc_region ?_
                  refine xl_op (P := Try.prog) (some 68) rfl rfl (ox_move (v := (.int .i64 (e.pl + (((e.n : Nat) : Int))))) rfl ?_)
                  refine xl_op (P := Try.prog) (some 69) rfl rfl (ox_callE (al := [(.int .i64 (e.pl + (((e.n : Nat) : Int))))]) pf_49 rfl (ret_mono (large_calls (e.pl + (((e.n : Nat) : Int))) _) ?_))
                  rintro _ _ ⟨rfl, rfl⟩
                  refine xl_nil ?_
                  refine xc_if (p := (e.pl + (((e.n : Nat) : Int))) < 0 ∨ 262144 < (e.pl + (((e.n : Nat) : Int)))) rfl (fun h9 => ?_) (fun h9 => ?_)
                  · skip
                    refine xc_seq ?_
                    refine xc_region ?_
                    refine xl_op (P := Try.prog) (some 6) rfl rfl (ox_assign (v := (.int .i64 0)) rfl ?_)
                    refine xl_op (P := Try.prog) (some 7) rfl rfl (ox_assign (v := (.int .i64 151)) rfl ?_)
                    refine xl_nil ?_
                    refine xc_ret ?_
                    change leaves _ _ _ _ _ _ _
                    refine leaves_nil (n := 72) (rs := [.tmp 6, .tmp 7]) (vs := [(.int .i64 0), (.int .i64 151)]) rfl ⟨⟨by decide, rfl⟩, ⟨by decide, rfl⟩, trivial⟩ ?_
                    have hmv : mv1 bias p e.pl e.del e.n = e.pl + (((e.n : Nat) : Int)) := by unfold mv1; repeat' (split) <;> omega
                    exact ⟨by unfold move; rw [if_neg (by unfold big; omega), if_neg (by rw [hln]; omega), hres, hdr, mvGo_far (by unfold big; omega) (by rw [hmv]; unfold big; omega)]; rfl, (Ext.chg1 (Ext.trans e_f1 e1) e2 (by omega))⟩
                  · skip
                    refine xc_skip ?_
                    refine xc_region ?_
                    refine xl_op (P := Try.prog) (some 70) rfl rfl (ox_add64 (a := ((i : Nat))) (b := 1) g19_f1 rfl (by omega) ?_)
                    refine xl_op (P := Try.prog) (some 19) rfl rfl (ox_move (v := (.int .i64 ((i : Nat) + 1))) rfl ?_)
                    refine xl_nil ?_
                    have hmv : mv1 bias p e.pl e.del e.n = e.pl + (((e.n : Nat) : Int)) := by unfold mv1; repeat' (split) <;> omega
                    have hnx : mvGo bias p ((l.map Ed.e3).drop i) = mvGo bias (e.pl + (((e.n : Nat) : Int))) ((l.map Ed.e3).drop (i + 1)) := by rw [hdr, mvGo_on (by unfold big; omega) (by rw [hmv]; unfold big; omega), hmv]
                    exact ⟨rfl, l.length - (i + 1), by omega, i + 1, e.pl + (((e.n : Nat) : Int)), by omega, by omega, by omega, by rw [hres, hnx], (by first | exact rfl | exact (congrArg (Value.int .i64) (by omega))), g1_f1, g17_f1, (by first | exact rfl | exact (congrArg (Value.int .i64) (by omega))), g18_f1, (Ext.chg1 (Ext.trans e_f1 e1) e2 (by omega))⟩
                · skip
                  refine xc_skip ?_
                  refine xc_seq ?_
                  refine xc_region ?_
                  refine xl_op (P := Try.prog) (some 68) rfl rfl (ox_move (v := (.int .i64 e.pl)) rfl ?_)
                  refine xl_op (P := Try.prog) (some 69) rfl rfl (ox_callE (al := [(.int .i64 e.pl)]) pf_49 rfl (ret_mono (large_calls e.pl _) ?_))
                  rintro _ _ ⟨rfl, rfl⟩
                  refine xl_nil ?_
                  refine xc_if (p := e.pl < 0 ∨ 262144 < e.pl) rfl (fun h10 => ?_) (fun h10 => ?_)
                  · skip
                    refine xc_seq ?_
                    refine xc_region ?_
                    refine xl_op (P := Try.prog) (some 6) rfl rfl (ox_assign (v := (.int .i64 0)) rfl ?_)
                    refine xl_op (P := Try.prog) (some 7) rfl rfl (ox_assign (v := (.int .i64 151)) rfl ?_)
                    refine xl_nil ?_
                    refine xc_ret ?_
                    change leaves _ _ _ _ _ _ _
                    refine leaves_nil (n := 72) (rs := [.tmp 6, .tmp 7]) (vs := [(.int .i64 0), (.int .i64 151)]) rfl ⟨⟨by decide, rfl⟩, ⟨by decide, rfl⟩, trivial⟩ ?_
                    have hmv : mv1 bias p e.pl e.del e.n = e.pl := by unfold mv1; repeat' (split) <;> omega
                    exact ⟨by unfold move; rw [if_neg (by unfold big; omega), if_neg (by rw [hln]; omega), hres, hdr, mvGo_far (by unfold big; omega) (by rw [hmv]; unfold big; omega)]; rfl, (Ext.chg1 (Ext.trans e_f1 e1) e2 (by omega))⟩
                  · skip
                    refine xc_skip ?_
                    refine xc_region ?_
                    refine xl_op (P := Try.prog) (some 70) rfl rfl (ox_add64 (a := ((i : Nat))) (b := 1) g19_f1 rfl (by omega) ?_)
                    refine xl_op (P := Try.prog) (some 19) rfl rfl (ox_move (v := (.int .i64 ((i : Nat) + 1))) rfl ?_)
                    refine xl_nil ?_
                    have hmv : mv1 bias p e.pl e.del e.n = e.pl := by unfold mv1; repeat' (split) <;> omega
                    have hnx : mvGo bias p ((l.map Ed.e3).drop i) = mvGo bias e.pl ((l.map Ed.e3).drop (i + 1)) := by rw [hdr, mvGo_on (by unfold big; omega) (by rw [hmv]; unfold big; omega), hmv]
                    exact ⟨rfl, l.length - (i + 1), by omega, i + 1, e.pl, by omega, by omega, by omega, by rw [hres, hnx], (by first | exact rfl | exact (congrArg (Value.int .i64) (by omega))), g1_f1, g17_f1, (by first | exact rfl | exact (congrArg (Value.int .i64) (by omega))), g18_f1, (Ext.chg1 (Ext.trans e_f1 e1) e2 (by omega))⟩
              · skip
                refine xc_skip ?_
                refine xc_seq ?_
                refine xc_region ?_
                refine xl_op (P := Try.prog) (some 68) rfl rfl (ox_move (v := (.int .i64 p)) g0_f1 ?_)
                refine xl_op (P := Try.prog) (some 69) rfl rfl (ox_callE (al := [(.int .i64 p)]) pf_49 rfl (ret_mono (large_calls p _) ?_))
                rintro _ _ ⟨rfl, rfl⟩
                refine xl_nil ?_
                refine xc_if (p := p < 0 ∨ 262144 < p) rfl (fun h11 => ?_) (fun h11 => ?_)
                · skip
                  refine xc_seq ?_
                  refine xc_region ?_
                  refine xl_op (P := Try.prog) (some 6) rfl rfl (ox_assign (v := (.int .i64 0)) rfl ?_)
                  refine xl_op (P := Try.prog) (some 7) rfl rfl (ox_assign (v := (.int .i64 151)) rfl ?_)
                  refine xl_nil ?_
                  refine xc_ret ?_
                  change leaves _ _ _ _ _ _ _
                  refine leaves_nil (n := 72) (rs := [.tmp 6, .tmp 7]) (vs := [(.int .i64 0), (.int .i64 151)]) rfl ⟨⟨by decide, rfl⟩, ⟨by decide, rfl⟩, trivial⟩ ?_
                  have hmv : mv1 bias p e.pl e.del e.n = p := by unfold mv1; repeat' (split) <;> omega
                  exact ⟨by unfold move; rw [if_neg (by unfold big; omega), if_neg (by rw [hln]; omega), hres, hdr, mvGo_far (by unfold big; omega) (by rw [hmv]; unfold big; omega)]; rfl, (Ext.chg1 (Ext.trans e_f1 e1) e2 (by omega))⟩
                · skip
                  refine xc_skip ?_
                  refine xc_region ?_
                  refine xl_op (P := Try.prog) (some 70) rfl rfl (ox_add64 (a := ((i : Nat))) (b := 1) g19_f1 rfl (by omega) ?_)
                  refine xl_op (P := Try.prog) (some 19) rfl rfl (ox_move (v := (.int .i64 ((i : Nat) + 1))) rfl ?_)
                  refine xl_nil ?_
                  have hmv : mv1 bias p e.pl e.del e.n = p := by unfold mv1; repeat' (split) <;> omega
                  have hnx : mvGo bias p ((l.map Ed.e3).drop i) = mvGo bias p ((l.map Ed.e3).drop (i + 1)) := by rw [hdr, mvGo_on (by unfold big; omega) (by rw [hmv]; unfold big; omega), hmv]
                  exact ⟨rfl, l.length - (i + 1), by omega, i + 1, p, by omega, by omega, by omega, by rw [hres, hnx], g0_f1, g1_f1, g17_f1, (by first | exact rfl | exact (congrArg (Value.int .i64) (by omega))), g18_f1, (Ext.chg1 (Ext.trans e_f1 e1) e2 (by omega))⟩
        · skip
          refine xc_exit ?_
          refine xc_seq ?_
          refine xc_region ?_
          refine xl_op (P := Try.prog) (some 71) rfl rfl (ox_move (v := (.int .i64 p)) g0_f1 ?_)
          refine xl_op (P := Try.prog) (some 6) rfl rfl (ox_assign (v := (.int .i64 p)) rfl ?_)
          refine xl_op (P := Try.prog) (some 7) rfl rfl (ox_assign (v := (.int .i64 0)) rfl ?_)
          refine xl_nil ?_
          refine xc_ret ?_
          change leaves _ _ _ _ _ _ _
          refine leaves_nil (n := 72) (rs := [.tmp 6, .tmp 7]) (vs := [(.int .i64 p), (.int .i64 0)]) rfl ⟨⟨by decide, rfl⟩, ⟨by decide, rfl⟩, trivial⟩ ?_
          exact ⟨by unfold move; rw [if_neg (by unfold big; omega), if_neg (by rw [hln]; omega), hres, List.drop_eq_nil_of_le (by rw [hln]; omega)]; rfl, e_f1⟩

theorem refMove_calls (p0 bias : Int) (l : List Ed) (A : Option Addr) (c : Nat) (w : World) (hA : RowA w A (edC l)) :
    Calls Try.prog 20 #[(.int .i64 p0), (.int .i64 bias), (.slice A l.length c)] w (Ret (fun v w' => v = .tuple #[.int .i64 (move p0 bias (l.map Ed.e3)).1, .int .i64 (move p0 bias (l.map Ed.e3)).2] ∧ Ext w w')) := by
  refine calls_xc (n := 88) (f := fun s_ => [(.int .i64 p0), (.int .i64 bias), (.slice A l.length c)].getD s_ undef) Try.func20 rfl rfl (by simp) (fun s_ => by simp) ?_
  refine xc_seq ?_
  refine xc_region ?_
  refine xl_op (P := Try.prog) (some 6) rfl rfl (ox_assign (v := (.int .i64 0)) rfl ?_)
  refine xl_op (P := Try.prog) (some 7) rfl rfl (ox_assign (v := (.int .i64 0)) rfl ?_)
  refine xl_nil ?_
  refine xc_seq ?_
  refine xc_seq ?_
  refine xc_region ?_
  refine xl_op (P := Try.prog) (some 10) rfl rfl (ox_move (v := (.int .i64 p0)) rfl ?_)
  refine xl_op (P := Try.prog) (some 11) rfl rfl (ox_lss (k := .i64) (a := p0) (b := 0) rfl rfl ?_)
  refine xl_op (P := Try.prog) (some 12) rfl rfl (ox_move (v := (.bool (decide ((p0 : Int) < 0)))) rfl ?_)
  refine xl_may (P := Try.prog) (some 13) (j := 2) (b := false) (((decide ((p0 : Int) < 0))) = false) (.bool (decide ((p0 : Int) < 0))) (.int .i64 p0) rfl rfl rfl (may_b ((decide ((p0 : Int) < 0))) false) (fun hp => ox_move (v := (.int .i64 p0)) rfl ⟨rfl, rfl⟩) ?_
  refine xl_may (P := Try.prog) (some 14) (j := 2) (b := false) (((decide ((p0 : Int) < 0))) = false) (.bool (decide ((p0 : Int) < 0))) (.bool (decide ((262144 : Int) < p0))) rfl rfl rfl (may_b ((decide ((p0 : Int) < 0))) false) (fun hp => ox_gtr (k := .i64) (a := p0) (b := 262144) (if_pos (α := Value) (t := (.int .i64 p0)) (e := undef) hp) rfl ⟨rfl, rfl⟩) ?_
  refine xl_op (P := Try.prog) (some 15) rfl rfl (ox_pick_or (a := ((decide ((p0 : Int) < 0)))) (b := ((decide ((262144 : Int) < p0)))) rfl rfl (fun ha => (if_pos (α := Value) (t := (.bool (decide ((262144 : Int) < p0)))) (e := undef) ha)) ?_)
  refine xl_nil ?_
  refine xc_cond (b := (((decide ((p0 : Int) < 0))) || ((decide ((262144 : Int) < p0))))) rfl (fun h1 => ?_) (fun h1 => ?_)
  · skip
    have h1' := h1
    try simp only [Bool.or_eq_true, Bool.and_eq_true, decide_eq_true_eq, Bool.or_eq_false_iff, Bool.and_eq_false_iff, decide_eq_false_iff_not, Bool.not_eq_true', Bool.not_eq_false'] at h1'
    refine xc_seq ?_
    refine xc_region ?_
    refine xl_op (P := Try.prog) (some 6) rfl rfl (ox_assign (v := (.int .i64 0)) rfl ?_)
    refine xl_op (P := Try.prog) (some 7) rfl rfl (ox_assign (v := (.int .i64 151)) rfl ?_)
    refine xl_nil ?_
    refine xc_ret ?_
    change leaves _ _ _ _ _ _ _
    refine leaves_nil (n := 88) (rs := [.tmp 6, .tmp 7]) (vs := [(.int .i64 0), (.int .i64 151)]) rfl ⟨⟨by decide, rfl⟩, ⟨by decide, rfl⟩, trivial⟩ ?_
    exact ⟨by unfold move; rw [if_pos (by unfold big; omega)]; rfl, Chg.refl _ _⟩
  · skip
    have h1' := h1
    try simp only [Bool.or_eq_true, Bool.and_eq_true, decide_eq_true_eq, Bool.or_eq_false_iff, Bool.and_eq_false_iff, decide_eq_false_iff_not, Bool.not_eq_true', Bool.not_eq_false'] at h1'
    refine xc_skip ?_
    refine xc_seq ?_
    refine xc_seq ?_
    refine xc_region ?_
    refine xl_op (P := Try.prog) (some 16) rfl rfl (ox_move (v := (.slice A l.length c)) rfl ?_)
    refine xl_op (P := Try.prog) (some 17) rfl rfl (ox_len (A := A) (n := l.length) (cp := c) rfl tU_43 rfl ?_)
    refine xl_op (P := Try.prog) (some 18) rfl rfl (ox_gtr (k := .i64) (a := (((l.length : Nat) : Int))) (b := 4096) rfl rfl ?_)
    refine xl_nil ?_
    refine xc_if (p := (4096 : Int) < (((l.length : Nat) : Int))) rfl (fun h2 => ?_) (fun h2 => ?_)
    · skip
      refine xc_seq ?_
      refine xc_region ?_
      refine xl_op (P := Try.prog) (some 6) rfl rfl (ox_assign (v := (.int .i64 0)) rfl ?_)
      refine xl_op (P := Try.prog) (some 7) rfl rfl (ox_assign (v := (.int .i64 2)) rfl ?_)
      refine xl_nil ?_
      refine xc_ret ?_
      change leaves _ _ _ _ _ _ _
      refine leaves_nil (n := 88) (rs := [.tmp 6, .tmp 7]) (vs := [(.int .i64 0), (.int .i64 2)]) rfl ⟨⟨by decide, rfl⟩, ⟨by decide, rfl⟩, trivial⟩ ?_
      exact ⟨by unfold move; rw [if_neg (by unfold big; omega), if_pos (by simp; omega)]; rfl, Chg.refl _ _⟩
    · skip
      refine xc_skip ?_
      refine xc_seq ?_
      refine xc_seq ?_
      refine xc_region ?_
      refine xl_op (P := Try.prog) (some 8) rfl rfl (ox_assign (v := (.int .i64 0)) rfl ?_)
      refine xl_nil ?_
      refine xc_block ?_
      refine xc_loopN (fun m f W => ∃ (i : Nat) (p : Int), m = l.length - i ∧ i ≤ l.length ∧ (0 ≤ p ∧ p ≤ 262144) ∧ mvGo bias p0 (l.map Ed.e3) = mvGo bias p ((l.map Ed.e3).drop i) ∧ f 0 = (.int .i64 p) ∧ f 1 = (.int .i64 bias) ∧ f 2 = (.slice A l.length c) ∧ f 8 = (.int .i64 ((i : Nat))) ∧ Ext w W) (l.length) ?_ ?_
      · exact ⟨0, p0, by omega, by omega, by omega, by simp, (by first | exact rfl | exact (congrArg (Value.int .i64) (by omega))), rfl, rfl, (by first | exact rfl | exact (congrArg (Value.int .i64) (by omega))), (Chg.refl _ _)⟩
      · rintro m f1 w1 ⟨i, p, hm, hi, hp, hres, g0_f1, g1_f1, g2_f1, g8_f1, e_f1⟩
        have hzE := e_f1.size
        have hln : (l.map Ed.e3).length = l.length := by simp
        refine xc_seq ?_
        refine xc_seq ?_
        refine xc_region ?_
        refine xl_op (P := Try.prog) (some 19) rfl rfl (ox_move (v := (.int .i64 ((i : Nat)))) g8_f1 ?_)
        refine xl_op (P := Try.prog) (some 20) rfl rfl (ox_move (v := (.slice A l.length c)) g2_f1 ?_)
        refine xl_op (P := Try.prog) (some 21) rfl rfl (ox_len (A := A) (n := l.length) (cp := c) rfl tU_43 rfl ?_)
        refine xl_op (P := Try.prog) (some 22) rfl rfl (ox_lss (k := .i64) (a := ((i : Nat))) (b := (((l.length : Nat) : Int))) rfl rfl ?_)
        refine xl_nil ?_
        refine xc_if (p := ((i : Nat) : Int) < (((l.length : Nat) : Int))) rfl (fun h3 => ?_) (fun h3 => ?_)
        · skip
          have hil : i < l.length := by omega
          obtain ⟨e, he⟩ := get_ex (l := l) (i := i) hil
          obtain ⟨g, o, rfl⟩ := hA.ex (by intro hh; cases l with | nil => simp at he | cons q l => simp [edC, Ed.cs] at hh)
          have hce : CellsL w1 g (o + i * 3) e.cs := CellsL.keep e_f1 not_false (cellsL_flat Ed.cs 3 (fun _ => rfl) hA.cells he)
          have hdr := drop_get (l := l.map Ed.e3) (i := i) (e := e.e3) (by simp [he])
          refine xc_skip ?_
          refine xc_seq ?_
          refine xc_block ?_
          refine xc_seq ?_
          refine xc_region ?_
          refine xl_op (P := Try.prog) (some 25) rfl rfl (ox_move (v := (.slice (some ⟨g, o, none⟩) l.length c)) g2_f1 ?_)
          refine xl_op (P := Try.prog) (some 26) rfl rfl (ox_move (v := (.int .i64 ((i : Nat)))) g8_f1 ?_)
          refine xl_op (P := Try.prog) (some 27) rfl rfl (ox_indexAddr (b := g) (o := o) (i := ((i : Nat))) tE_43 rfl rfl (by omega) (by omega) ?_)
          refine xl_op (P := Try.prog) (some 28) rfl rfl (ox_loadN (vs := [(.int .i64 e.pl), (.int .i64 e.del), (.slice e.A e.n e.c)]) tA_59 tS_59 rfl rfl (by simpa [Ed.cs] using hce) ?_)
          refine xl_op (P := Try.prog) (some 9) rfl rfl (ox_alloc tZ_59 ?_)
          intro w2 e1 z1 b1
          replace b1 : Blk w2 w1.heap.size #[(.int .i64 0), (.int .i64 0), (.slice none 0 0)] 59 := b1
          refine xl_op (P := Try.prog) none rfl rfl (ox_store (n := 3) (vs := [(.int .i64 e.pl), (.int .i64 e.del), (.slice e.A e.n e.c)]) tS_59 rfl (v := (.agg #[(.int .i64 e.pl), (.int .i64 e.del), (.slice e.A e.n e.c)])) rfl rfl rfl rfl b1 (Nat.le_of_ble_eq_true rfl) ?_)
          intro w3 e2 z2 b2
          replace b2 : Blk w3 w1.heap.size #[(.int .i64 e.pl), (.int .i64 e.del), (.slice e.A e.n e.c)] 59 := blk_full b2 rfl
          refine xl_nil ?_
          refine xc_seq ?_
          refine xc_seq ?_
          refine xc_region ?_
          refine xl_op (P := Try.prog) (some 29) rfl rfl (ox_fieldAddr (b := w1.heap.size) (o := 0) tF_59_0 rfl ?_)
          refine xl_op (P := Try.prog) (some 30) rfl rfl (ox_load (v := (.int .i64 e.pl)) tA_3 rfl (b2.cell rfl) ?_)
          refine xl_op (P := Try.prog) (some 31) rfl rfl (ox_lss (k := .i64) (a := e.pl) (b := 0) rfl rfl ?_)
          refine xl_op (P := Try.prog) (some 32) rfl rfl (ox_move (v := (.bool (decide ((e.pl : Int) < 0)))) rfl ?_)
          refine xl_may (P := Try.prog) (some 33) (j := 3) (b := false) (((decide ((e.pl : Int) < 0))) = false) (.bool (decide ((e.pl : Int) < 0))) (.pointer (some ⟨w1.heap.size, 0, none⟩)) rfl rfl rfl (may_b ((decide ((e.pl : Int) < 0))) false) (fun hp => ox_fieldAddr (b := w1.heap.size) (o := 0) tF_59_0 rfl ⟨rfl, rfl⟩) ?_
          refine xl_may (P := Try.prog) (some 34) (j := 3) (b := false) (((decide ((e.pl : Int) < 0))) = false) (.bool (decide ((e.pl : Int) < 0))) (.int .i64 e.pl) rfl rfl rfl (may_b ((decide ((e.pl : Int) < 0))) false) (fun hp => ox_load (v := (.int .i64 e.pl)) tA_3 (if_pos (α := Value) (t := (.pointer (some ⟨w1.heap.size, 0, none⟩))) (e := undef) hp) (b2.cell rfl) ⟨rfl, rfl⟩) ?_
          refine xl_may (P := Try.prog) (some 35) (j := 3) (b := false) (((decide ((e.pl : Int) < 0))) = false) (.bool (decide ((e.pl : Int) < 0))) (.bool (decide ((262144 : Int) < e.pl))) rfl rfl rfl (may_b ((decide ((e.pl : Int) < 0))) false) (fun hp => ox_gtr (k := .i64) (a := e.pl) (b := 262144) (if_pos (α := Value) (t := (.int .i64 e.pl)) (e := undef) hp) rfl ⟨rfl, rfl⟩) ?_
          refine xl_op (P := Try.prog) (some 36) rfl rfl (ox_pick_or (a := ((decide ((e.pl : Int) < 0)))) (b := ((decide ((262144 : Int) < e.pl)))) rfl rfl (fun ha => (if_pos (α := Value) (t := (.bool (decide ((262144 : Int) < e.pl)))) (e := undef) ha)) ?_)
          refine xl_op (P := Try.prog) (some 37) rfl rfl (ox_move (v := (.bool (((decide ((e.pl : Int) < 0))) || ((decide ((262144 : Int) < e.pl)))))) rfl ?_)
          refine xl_may (P := Try.prog) (some 38) (j := 8) (b := false) (((((decide ((e.pl : Int) < 0))) || ((decide ((262144 : Int) < e.pl))))) = false) (.bool (((decide ((e.pl : Int) < 0))) || ((decide ((262144 : Int) < e.pl))))) (.pointer (some ⟨w1.heap.size, 1, none⟩)) rfl rfl rfl (may_b ((((decide ((e.pl : Int) < 0))) || ((decide ((262144 : Int) < e.pl))))) false) (fun hp => ox_fieldAddr (b := w1.heap.size) (o := 0) tF_59_1 rfl ⟨rfl, rfl⟩) ?_
          refine xl_may (P := Try.prog) (some 39) (j := 8) (b := false) (((((decide ((e.pl : Int) < 0))) || ((decide ((262144 : Int) < e.pl))))) = false) (.bool (((decide ((e.pl : Int) < 0))) || ((decide ((262144 : Int) < e.pl))))) (.int .i64 e.del) rfl rfl rfl (may_b ((((decide ((e.pl : Int) < 0))) || ((decide ((262144 : Int) < e.pl))))) false) (fun hp => ox_load (v := (.int .i64 e.del)) tA_3 (if_pos (α := Value) (t := (.pointer (some ⟨w1.heap.size, 1, none⟩))) (e := undef) hp) (b2.cell rfl) ⟨rfl, rfl⟩) ?_
          refine xl_may (P := Try.prog) (some 40) (j := 8) (b := false) (((((decide ((e.pl : Int) < 0))) || ((decide ((262144 : Int) < e.pl))))) = false) (.bool (((decide ((e.pl : Int) < 0))) || ((decide ((262144 : Int) < e.pl))))) (.bool (decide ((e.del : Int) < 0))) rfl rfl rfl (may_b ((((decide ((e.pl : Int) < 0))) || ((decide ((262144 : Int) < e.pl))))) false) (fun hp => ox_lss (k := .i64) (a := e.del) (b := 0) (if_pos (α := Value) (t := (.int .i64 e.del)) (e := undef) hp) rfl ⟨rfl, rfl⟩) ?_
          refine xl_op (P := Try.prog) (some 41) rfl rfl (ox_pick_or (a := ((((decide ((e.pl : Int) < 0))) || ((decide ((262144 : Int) < e.pl)))))) (b := ((decide ((e.del : Int) < 0)))) rfl rfl (fun ha => (if_pos (α := Value) (t := (.bool (decide ((e.del : Int) < 0)))) (e := undef) ha)) ?_)
          refine xl_op (P := Try.prog) (some 42) rfl rfl (ox_move (v := (.bool (((((decide ((e.pl : Int) < 0))) || ((decide ((262144 : Int) < e.pl))))) || ((decide ((e.del : Int) < 0)))))) rfl ?_)
          refine xl_may (P := Try.prog) (some 43) (j := 13) (b := false) (((((((decide ((e.pl : Int) < 0))) || ((decide ((262144 : Int) < e.pl))))) || ((decide ((e.del : Int) < 0))))) = false) (.bool (((((decide ((e.pl : Int) < 0))) || ((decide ((262144 : Int) < e.pl))))) || ((decide ((e.del : Int) < 0))))) (.pointer (some ⟨w1.heap.size, 1, none⟩)) rfl rfl rfl (may_b ((((((decide ((e.pl : Int) < 0))) || ((decide ((262144 : Int) < e.pl))))) || ((decide ((e.del : Int) < 0))))) false) (fun hp => ox_fieldAddr (b := w1.heap.size) (o := 0) tF_59_1 rfl ⟨rfl, rfl⟩) ?_
          refine xl_may (P := Try.prog) (some 44) (j := 13) (b := false) (((((((decide ((e.pl : Int) < 0))) || ((decide ((262144 : Int) < e.pl))))) || ((decide ((e.del : Int) < 0))))) = false) (.bool (((((decide ((e.pl : Int) < 0))) || ((decide ((262144 : Int) < e.pl))))) || ((decide ((e.del : Int) < 0))))) (.int .i64 e.del) rfl rfl rfl (may_b ((((((decide ((e.pl : Int) < 0))) || ((decide ((262144 : Int) < e.pl))))) || ((decide ((e.del : Int) < 0))))) false) (fun hp => ox_load (v := (.int .i64 e.del)) tA_3 (if_pos (α := Value) (t := (.pointer (some ⟨w1.heap.size, 1, none⟩))) (e := undef) hp) (b2.cell rfl) ⟨rfl, rfl⟩) ?_
          refine xl_may (P := Try.prog) (some 45) (j := 13) (b := false) (((((((decide ((e.pl : Int) < 0))) || ((decide ((262144 : Int) < e.pl))))) || ((decide ((e.del : Int) < 0))))) = false) (.bool (((((decide ((e.pl : Int) < 0))) || ((decide ((262144 : Int) < e.pl))))) || ((decide ((e.del : Int) < 0))))) (.bool (decide ((262144 : Int) < e.del))) rfl rfl rfl (may_b ((((((decide ((e.pl : Int) < 0))) || ((decide ((262144 : Int) < e.pl))))) || ((decide ((e.del : Int) < 0))))) false) (fun hp => ox_gtr (k := .i64) (a := e.del) (b := 262144) (if_pos (α := Value) (t := (.int .i64 e.del)) (e := undef) hp) rfl ⟨rfl, rfl⟩) ?_
          refine xl_op (P := Try.prog) (some 46) rfl rfl (ox_pick_or (a := ((((((decide ((e.pl : Int) < 0))) || ((decide ((262144 : Int) < e.pl))))) || ((decide ((e.del : Int) < 0)))))) (b := ((decide ((262144 : Int) < e.del)))) rfl rfl (fun ha => (if_pos (α := Value) (t := (.bool (decide ((262144 : Int) < e.del)))) (e := undef) ha)) ?_)
          refine xl_op (P := Try.prog) (some 47) rfl rfl (ox_move (v := (.bool (((((((decide ((e.pl : Int) < 0))) || ((decide ((262144 : Int) < e.pl))))) || ((decide ((e.del : Int) < 0))))) || ((decide ((262144 : Int) < e.del)))))) rfl ?_)
          refine xl_may (P := Try.prog) (some 48) (j := 18) (b := false) (((((((((decide ((e.pl : Int) < 0))) || ((decide ((262144 : Int) < e.pl))))) || ((decide ((e.del : Int) < 0))))) || ((decide ((262144 : Int) < e.del))))) = false) (.bool (((((((decide ((e.pl : Int) < 0))) || ((decide ((262144 : Int) < e.pl))))) || ((decide ((e.del : Int) < 0))))) || ((decide ((262144 : Int) < e.del))))) (.pointer (some ⟨w1.heap.size, 2, none⟩)) rfl rfl rfl (may_b ((((((((decide ((e.pl : Int) < 0))) || ((decide ((262144 : Int) < e.pl))))) || ((decide ((e.del : Int) < 0))))) || ((decide ((262144 : Int) < e.del))))) false) (fun hp => ox_fieldAddr (b := w1.heap.size) (o := 0) tF_59_2 rfl ⟨rfl, rfl⟩) ?_
          refine xl_may (P := Try.prog) (some 49) (j := 18) (b := false) (((((((((decide ((e.pl : Int) < 0))) || ((decide ((262144 : Int) < e.pl))))) || ((decide ((e.del : Int) < 0))))) || ((decide ((262144 : Int) < e.del))))) = false) (.bool (((((((decide ((e.pl : Int) < 0))) || ((decide ((262144 : Int) < e.pl))))) || ((decide ((e.del : Int) < 0))))) || ((decide ((262144 : Int) < e.del))))) (.slice e.A e.n e.c) rfl rfl rfl (may_b ((((((((decide ((e.pl : Int) < 0))) || ((decide ((262144 : Int) < e.pl))))) || ((decide ((e.del : Int) < 0))))) || ((decide ((262144 : Int) < e.del))))) false) (fun hp => ox_load (v := (.slice e.A e.n e.c)) tA_57 (if_pos (α := Value) (t := (.pointer (some ⟨w1.heap.size, 2, none⟩))) (e := undef) hp) (b2.cell rfl) ⟨rfl, rfl⟩) ?_
          refine xl_may (P := Try.prog) (some 50) (j := 18) (b := false) (((((((((decide ((e.pl : Int) < 0))) || ((decide ((262144 : Int) < e.pl))))) || ((decide ((e.del : Int) < 0))))) || ((decide ((262144 : Int) < e.del))))) = false) (.bool (((((((decide ((e.pl : Int) < 0))) || ((decide ((262144 : Int) < e.pl))))) || ((decide ((e.del : Int) < 0))))) || ((decide ((262144 : Int) < e.del))))) (.int .i64 (((e.n : Nat) : Int))) rfl rfl rfl (may_b ((((((((decide ((e.pl : Int) < 0))) || ((decide ((262144 : Int) < e.pl))))) || ((decide ((e.del : Int) < 0))))) || ((decide ((262144 : Int) < e.del))))) false) (fun hp => ox_len (A := e.A) (n := e.n) (cp := e.c) rfl tU_57 (if_pos (α := Value) (t := (.slice e.A e.n e.c)) (e := undef) hp) ⟨rfl, rfl⟩) ?_
          refine xl_may (P := Try.prog) (some 51) (j := 18) (b := false) (((((((((decide ((e.pl : Int) < 0))) || ((decide ((262144 : Int) < e.pl))))) || ((decide ((e.del : Int) < 0))))) || ((decide ((262144 : Int) < e.del))))) = false) (.bool (((((((decide ((e.pl : Int) < 0))) || ((decide ((262144 : Int) < e.pl))))) || ((decide ((e.del : Int) < 0))))) || ((decide ((262144 : Int) < e.del))))) (.bool (decide ((262144 : Int) < (((e.n : Nat) : Int))))) rfl rfl rfl (may_b ((((((((decide ((e.pl : Int) < 0))) || ((decide ((262144 : Int) < e.pl))))) || ((decide ((e.del : Int) < 0))))) || ((decide ((262144 : Int) < e.del))))) false) (fun hp => ox_gtr (k := .i64) (a := (((e.n : Nat) : Int))) (b := 262144) (if_pos (α := Value) (t := (.int .i64 (((e.n : Nat) : Int)))) (e := undef) hp) rfl ⟨rfl, rfl⟩) ?_
          refine xl_op (P := Try.prog) (some 52) rfl rfl (ox_pick_or (a := ((((((((decide ((e.pl : Int) < 0))) || ((decide ((262144 : Int) < e.pl))))) || ((decide ((e.del : Int) < 0))))) || ((decide ((262144 : Int) < e.del)))))) (b := ((decide ((262144 : Int) < (((e.n : Nat) : Int)))))) rfl rfl (fun ha => (if_pos (α := Value) (t := (.bool (decide ((262144 : Int) < (((e.n : Nat) : Int)))))) (e := undef) ha)) ?_)
          refine xl_nil ?_
          refine xc_cond (b := (((((((((decide ((e.pl : Int) < 0))) || ((decide ((262144 : Int) < e.pl))))) || ((decide ((e.del : Int) < 0))))) || ((decide ((262144 : Int) < e.del))))) || ((decide ((262144 : Int) < (((e.n : Nat) : Int))))))) rfl (fun h4 => ?_) (fun h4 => ?_)
          · skip
            have h4' := h4
            try simp only [Bool.or_eq_true, Bool.and_eq_true, decide_eq_true_eq, Bool.or_eq_false_iff, Bool.and_eq_false_iff, decide_eq_false_iff_not, Bool.not_eq_true', Bool.not_eq_false'] at h4'
            refine xc_seq ?_
            refine xc_region ?_
            refine xl_op (P := Try.prog) (some 6) rfl rfl (ox_assign (v := (.int .i64 0)) rfl ?_)
            refine xl_op (P := Try.prog) (some 7) rfl rfl (ox_assign (v := (.int .i64 1)) rfl ?_)
            refine xl_nil ?_
            refine xc_ret ?_
            change leaves _ _ _ _ _ _ _
            refine leaves_nil (n := 88) (rs := [.tmp 6, .tmp 7]) (vs := [(.int .i64 0), (.int .i64 1)]) rfl ⟨⟨by decide, rfl⟩, ⟨by decide, rfl⟩, trivial⟩ ?_
            exact ⟨by unfold move; rw [if_neg (by unfold big; omega), if_neg (by rw [hln]; omega), hres, hdr, mvGo_bad (by unfold big; omega)]; rfl, (Ext.chg1 (Ext.trans e_f1 e1) e2 (by omega))⟩
          · skip
            have h4' := h4
            try simp only [Bool.or_eq_true, Bool.and_eq_true, decide_eq_true_eq, Bool.or_eq_false_iff, Bool.and_eq_false_iff, decide_eq_false_iff_not, Bool.not_eq_true', Bool.not_eq_false'] at h4'
            refine xc_skip ?_
            refine xc_seq ?_
            refine xc_block ?_
            refine xc_seq ?_
            refine xc_region ?_
            refine xl_op (P := Try.prog) (some 60) rfl rfl (ox_move (v := (.int .i64 p)) g0_f1 ?_)
            refine xl_op (P := Try.prog) (some 61) rfl rfl (ox_fieldAddr (b := w1.heap.size) (o := 0) tF_59_0 rfl ?_)
            refine xl_op (P := Try.prog) (some 62) rfl rfl (ox_load (v := (.int .i64 e.pl)) tA_3 rfl (b2.cell rfl) ?_)
            refine xl_op (P := Try.prog) (some 63) rfl rfl (ox_lss (k := .i64) (a := p) (b := e.pl) rfl rfl ?_)
            refine xl_op (P := Try.prog) (some 59) rfl rfl (ox_assign (v := (.bool (decide ((p : Int) < e.pl)))) rfl ?_)
            refine xl_nil ?_
            refine xc_if (p := (p : Int) < e.pl) rfl (fun h5 => ?_) (fun h5 => ?_)
            · skip
              refine xc_skip ?_
              refine xc_seq ?_
              refine xc_region ?_
              refine xl_op (P := Try.prog) (some 85) rfl rfl (ox_move (v := (.int .i64 p)) g0_f1 ?_)
              refine xl_op (P := Try.prog) (some 86) rfl rfl (ox_gtr (k := .i64) (a := p) (b := 262144) rfl rfl ?_)
              refine xl_nil ?_
              refine xc_if (p := (262144 : Int) < p) rfl (fun h6 => ?_) (fun h6 => ?_)
              · skip
                refine xc_seq ?_
                refine xc_region ?_
                refine xl_op (P := Try.prog) (some 6) rfl rfl (ox_assign (v := (.int .i64 0)) rfl ?_)
                refine xl_op (P := Try.prog) (some 7) rfl rfl (ox_assign (v := (.int .i64 151)) rfl ?_)
                refine xl_nil ?_
                refine xc_ret ?_
                change leaves _ _ _ _ _ _ _
                refine leaves_nil (n := 88) (rs := [.tmp 6, .tmp 7]) (vs := [(.int .i64 0), (.int .i64 151)]) rfl ⟨⟨by decide, rfl⟩, ⟨by decide, rfl⟩, trivial⟩ ?_
                have hmv : mv1 bias p e.pl e.del e.n = p := by unfold mv1; repeat' (split) <;> omega
                exact ⟨by unfold move; rw [if_neg (by unfold big; omega), if_neg (by rw [hln]; omega), hres, hdr, mvGo_far (by unfold big; omega) (by rw [hmv]; unfold big; omega)]; rfl, (Ext.chg1 (Ext.trans e_f1 e1) e2 (by omega))⟩
              · skip
                refine xc_skip ?_
                refine xc_region ?_
                refine xl_op (P := Try.prog) (some 23) rfl rfl (ox_move (v := (.int .i64 ((i : Nat)))) g8_f1 ?_)
                refine xl_op (P := Try.prog) (some 24) rfl rfl (ox_add64 (a := ((i : Nat))) (b := 1) rfl rfl (by omega) ?_)
                refine xl_op (P := Try.prog) (some 8) rfl rfl (ox_assign (v := (.int .i64 ((i : Nat) + 1))) rfl ?_)
                refine xl_nil ?_
                have hmv : mv1 bias p e.pl e.del e.n = p := by unfold mv1; repeat' (split) <;> omega
                have hnx : mvGo bias p ((l.map Ed.e3).drop i) = mvGo bias p ((l.map Ed.e3).drop (i + 1)) := by rw [hdr, mvGo_on (by unfold big; omega) (by rw [hmv]; unfold big; omega), hmv]
                exact ⟨rfl, l.length - (i + 1), by omega, i + 1, p, by omega, by omega, by omega, by rw [hres, hnx], g0_f1, g1_f1, g2_f1, (by first | exact rfl | exact (congrArg (Value.int .i64) (by omega))), (Ext.chg1 (Ext.trans e_f1 e1) e2 (by omega))⟩
            · skip
              refine xc_seq ?_
              refine xc_region ?_
              refine xl_op (P := Try.prog) (some 65) rfl rfl (ox_move (v := (.int .i64 p)) g0_f1 ?_)
              refine xl_op (P := Try.prog) (some 66) rfl rfl (ox_fieldAddr (b := w1.heap.size) (o := 0) tF_59_0 rfl ?_)
              refine xl_op (P := Try.prog) (some 67) rfl rfl (ox_load (v := (.int .i64 e.pl)) tA_3 rfl (b2.cell rfl) ?_)
              refine xl_op (P := Try.prog) (some 68) rfl rfl (ox_fieldAddr (b := w1.heap.size) (o := 0) tF_59_1 rfl ?_)
              refine xl_op (P := Try.prog) (some 69) rfl rfl (ox_load (v := (.int .i64 e.del)) tA_3 rfl (b2.cell rfl) ?_)
              refine xl_op (P := Try.prog) (some 70) rfl rfl (ox_add64 (a := e.pl) (b := e.del) rfl rfl (by omega) ?_)
              refine xl_op (P := Try.prog) (some 71) rfl rfl (ox_gtr (k := .i64) (a := p) (b := (e.pl + e.del)) rfl rfl ?_)
              refine xl_op (P := Try.prog) (some 64) rfl rfl (ox_assign (v := (.bool (decide ((e.pl + e.del : Int) < p)))) rfl ?_)
              refine xl_nil ?_
              refine xc_if (p := (e.pl + e.del : Int) < p) rfl (fun h7 => ?_) (fun h7 => ?_)
              · skip
                refine xc_region ?_
                refine xl_op (P := Try.prog) (some 72) rfl rfl (ox_move (v := (.int .i64 p)) g0_f1 ?_)
                refine xl_op (P := Try.prog) (some 73) rfl rfl (ox_fieldAddr (b := w1.heap.size) (o := 0) tF_59_1 rfl ?_)
                refine xl_op (P := Try.prog) (some 74) rfl rfl (ox_load (v := (.int .i64 e.del)) tA_3 rfl (b2.cell rfl) ?_)
                refine xl_op (P := Try.prog) (some 75) rfl rfl (ox_sub64 (a := p) (b := e.del) rfl rfl (by omega) ?_)
                refine xl_op (P := Try.prog) (some 76) rfl rfl (ox_fieldAddr (b := w1.heap.size) (o := 0) tF_59_2 rfl ?_)
                refine xl_op (P := Try.prog) (some 77) rfl rfl (ox_load (v := (.slice e.A e.n e.c)) tA_57 rfl (b2.cell rfl) ?_)
                refine xl_op (P := Try.prog) (some 78) rfl rfl (ox_len (A := e.A) (n := e.n) (cp := e.c) rfl tU_57 rfl ?_)
                refine xl_op (P := Try.prog) (some 79) rfl rfl (ox_add64 (a := (p - e.del)) (b := (((e.n : Nat) : Int))) rfl rfl (by omega) ?_)
                refine xl_op (P := Try.prog) (some 0) rfl rfl (ox_assign (v := (.int .i64 (p - e.del + (((e.n : Nat) : Int))))) rfl ?_)
                refine xl_nil ?_
                refine xc_seq ?_
                refine xc_region ?_
                refine xl_op (P := Try.prog) (some 85) rfl rfl (ox_move (v := (.int .i64 (p - e.del + (((e.n : Nat) : Int))))) rfl ?_)
                refine xl_op (P := Try.prog) (some 86) rfl rfl (ox_gtr (k := .i64) (a := (p - e.del + (((e.n : Nat) : Int)))) (b := 262144) rfl rfl ?_)
                refine xl_nil ?_
                refine xc_if (p := (262144 : Int) < (p - e.del + (((e.n : Nat) : Int)))) rfl (fun h8 => ?_) (fun h8 => ?_)
                · skip
                  refine xc_seq ?_
                  refine xc_region ?_
                  refine xl_op (P := Try.prog) (some 6) rfl rfl (ox_assign (v := (.int .i64 0)) rfl ?_)
                  refine xl_op (P := Try.prog) (some 7) rfl rfl (ox_assign (v := (.int .i64 151)) rfl ?_)
                  refine xl_nil ?_
                  refine xc_ret ?_
                  change leaves _ _ _ _ _ _ _
                  refine leaves_nil (n := 88) (rs := [.tmp 6, .tmp 7]) (vs := [(.int .i64 0), (.int .i64 151)]) rfl ⟨⟨by decide, rfl⟩, ⟨by decide, rfl⟩, trivial⟩ ?_
                  have hmv : mv1 bias p e.pl e.del e.n = p - e.del + (((e.n : Nat) : Int)) := by unfold mv1; repeat' (split) <;> omega
                  exact ⟨by unfold move; rw [if_neg (by unfold big; omega), if_neg (by rw [hln]; omega), hres, hdr, mvGo_far (by unfold big; omega) (by rw [hmv]; unfold big; omega)]; rfl, (Ext.chg1 (Ext.trans e_f1 e1) e2 (by omega))⟩
                · skip
                  refine xc_skip ?_
                  refine xc_region ?_
                  refine xl_op (P := Try.prog) (some 23) rfl rfl (ox_move (v := (.int .i64 ((i : Nat)))) g8_f1 ?_)
                  refine xl_op (P := Try.prog) (some 24) rfl rfl (ox_add64 (a := ((i : Nat))) (b := 1) rfl rfl (by omega) ?_)
                  refine xl_op (P := Try.prog) (some 8) rfl rfl (ox_assign (v := (.int .i64 ((i : Nat) + 1))) rfl ?_)
                  refine xl_nil ?_
                  have hmv : mv1 bias p e.pl e.del e.n = p - e.del + (((e.n : Nat) : Int)) := by unfold mv1; repeat' (split) <;> omega
                  have hnx : mvGo bias p ((l.map Ed.e3).drop i) = mvGo bias (p - e.del + (((e.n : Nat) : Int))) ((l.map Ed.e3).drop (i + 1)) := by rw [hdr, mvGo_on (by unfold big; omega) (by rw [hmv]; unfold big; omega), hmv]
                  exact ⟨rfl, l.length - (i + 1), by omega, i + 1, p - e.del + (((e.n : Nat) : Int)), by omega, by omega, by omega, by rw [hres, hnx], (by first | exact rfl | exact (congrArg (Value.int .i64) (by omega))), g1_f1, g2_f1, (by first | exact rfl | exact (congrArg (Value.int .i64) (by omega))), (Ext.chg1 (Ext.trans e_f1 e1) e2 (by omega))⟩
              · skip
                refine xc_seq ?_
                refine xc_region ?_
                refine xl_op (P := Try.prog) (some 81) rfl rfl (ox_move (v := (.int .i64 bias)) g1_f1 ?_)
                refine xl_op (P := Try.prog) (some 82) rfl rfl (ox_lss (k := .i64) (a := bias) (b := 0) rfl rfl ?_)
                refine xl_op (P := Try.prog) (some 80) rfl rfl (ox_assign (v := (.bool (decide ((bias : Int) < 0)))) rfl ?_)
                refine xl_nil ?_
                refine xc_if (p := (bias : Int) < 0) rfl (fun h9 => ?_) (fun h9 => ?_)
                · skip
                  refine xc_region ?_
                  refine xl_op (P := Try.prog) (some 83) rfl rfl (ox_fieldAddr (b := w1.heap.size) (o := 0) tF_59_0 rfl ?_)
                  refine xl_op (P := Try.prog) (some 84) rfl rfl (ox_load (v := (.int .i64 e.pl)) tA_3 rfl (b2.cell rfl) ?_)
                  refine xl_op (P := Try.prog) (some 0) rfl rfl (ox_assign (v := (.int .i64 e.pl)) rfl ?_)
                  refine xl_nil ?_
                  refine xc_seq ?_
                  refine xc_region ?_
                  refine xl_op (P := Try.prog) (some 85) rfl rfl (ox_move (v := (.int .i64 e.pl)) rfl ?_)
                  refine xl_op (P := Try.prog) (some 86) rfl rfl (ox_gtr (k := .i64) (a := e.pl) (b := 262144) rfl rfl ?_)
                  refine xl_nil ?_
                  refine xc_if (p := (262144 : Int) < e.pl) rfl (fun h10 => ?_) (fun h10 => ?_)
                  · skip
                    refine xc_seq ?_
                    refine xc_region ?_
                    refine xl_op (P := Try.prog) (some 6) rfl rfl (ox_assign (v := (.int .i64 0)) rfl ?_)
                    refine xl_op (P := Try.prog) (some 7) rfl rfl (ox_assign (v := (.int .i64 151)) rfl ?_)
                    refine xl_nil ?_
                    refine xc_ret ?_
                    change leaves _ _ _ _ _ _ _
                    refine leaves_nil (n := 88) (rs := [.tmp 6, .tmp 7]) (vs := [(.int .i64 0), (.int .i64 151)]) rfl ⟨⟨by decide, rfl⟩, ⟨by decide, rfl⟩, trivial⟩ ?_
                    have hmv : mv1 bias p e.pl e.del e.n = e.pl := by unfold mv1; repeat' (split) <;> omega
                    exact ⟨by unfold move; rw [if_neg (by unfold big; omega), if_neg (by rw [hln]; omega), hres, hdr, mvGo_far (by unfold big; omega) (by rw [hmv]; unfold big; omega)]; rfl, (Ext.chg1 (Ext.trans e_f1 e1) e2 (by omega))⟩
                  · skip
                    refine xc_skip ?_
                    refine xc_region ?_
                    refine xl_op (P := Try.prog) (some 23) rfl rfl (ox_move (v := (.int .i64 ((i : Nat)))) g8_f1 ?_)
                    refine xl_op (P := Try.prog) (some 24) rfl rfl (ox_add64 (a := ((i : Nat))) (b := 1) rfl rfl (by omega) ?_)
                    refine xl_op (P := Try.prog) (some 8) rfl rfl (ox_assign (v := (.int .i64 ((i : Nat) + 1))) rfl ?_)
                    refine xl_nil ?_
                    have hmv : mv1 bias p e.pl e.del e.n = e.pl := by unfold mv1; repeat' (split) <;> omega
                    have hnx : mvGo bias p ((l.map Ed.e3).drop i) = mvGo bias e.pl ((l.map Ed.e3).drop (i + 1)) := by rw [hdr, mvGo_on (by unfold big; omega) (by rw [hmv]; unfold big; omega), hmv]
                    exact ⟨rfl, l.length - (i + 1), by omega, i + 1, e.pl, by omega, by omega, by omega, by rw [hres, hnx], (by first | exact rfl | exact (congrArg (Value.int .i64) (by omega))), g1_f1, g2_f1, (by first | exact rfl | exact (congrArg (Value.int .i64) (by omega))), (Ext.chg1 (Ext.trans e_f1 e1) e2 (by omega))⟩
                · skip
                  refine xc_region ?_
                  refine xl_op (P := Try.prog) (some 53) rfl rfl (ox_fieldAddr (b := w1.heap.size) (o := 0) tF_59_0 rfl ?_)
                  refine xl_op (P := Try.prog) (some 54) rfl rfl (ox_load (v := (.int .i64 e.pl)) tA_3 rfl (b2.cell rfl) ?_)
                  refine xl_op (P := Try.prog) (some 55) rfl rfl (ox_fieldAddr (b := w1.heap.size) (o := 0) tF_59_2 rfl ?_)
                  refine xl_op (P := Try.prog) (some 56) rfl rfl (ox_load (v := (.slice e.A e.n e.c)) tA_57 rfl (b2.cell rfl) ?_)
                  refine xl_op (P := Try.prog) (some 57) rfl rfl (ox_len (A := e.A) (n := e.n) (cp := e.c) rfl tU_57 rfl ?_)
                  refine xl_op (P := Try.prog) (some 58) rfl rfl (ox_add64 (a := e.pl) (b := (((e.n : Nat) : Int))) rfl rfl (by omega) ?_)
                  refine xl_op (P := Try.prog) (some 0) rfl rfl (ox_assign (v := (.int .i64 (e.pl + (((e.n : Nat) : Int))))) rfl ?_)
                  refine xl_nil ?_
                  refine xc_seq ?_
                  refine xc_region ?_
                  refine xl_op (P := Try.prog) (some 85) rfl rfl (ox_move (v := (.int .i64 (e.pl + (((e.n : Nat) : Int))))) rfl ?_)
                  refine xl_op (P := Try.prog) (some 86) rfl rfl (ox_gtr (k := .i64) (a := (e.pl + (((e.n : Nat) : Int)))) (b := 262144) rfl rfl ?_)
                  refine xl_nil ?_
                  refine xc_if (p := (262144 : Int) < (e.pl + (((e.n : Nat) : Int)))) rfl (fun h11 => ?_) (fun h11 => ?_)
                  · skip
                    refine xc_seq ?_
                    refine xc_region ?_
                    refine xl_op (P := Try.prog) (some 6) rfl rfl (ox_assign (v := (.int .i64 0)) rfl ?_)
                    refine xl_op (P := Try.prog) (some 7) rfl rfl (ox_assign (v := (.int .i64 151)) rfl ?_)
                    refine xl_nil ?_
                    refine xc_ret ?_
                    change leaves _ _ _ _ _ _ _
                    refine leaves_nil (n := 88) (rs := [.tmp 6, .tmp 7]) (vs := [(.int .i64 0), (.int .i64 151)]) rfl ⟨⟨by decide, rfl⟩, ⟨by decide, rfl⟩, trivial⟩ ?_
                    have hmv : mv1 bias p e.pl e.del e.n = e.pl + (((e.n : Nat) : Int)) := by unfold mv1; repeat' (split) <;> omega
                    exact ⟨by unfold move; rw [if_neg (by unfold big; omega), if_neg (by rw [hln]; omega), hres, hdr, mvGo_far (by unfold big; omega) (by rw [hmv]; unfold big; omega)]; rfl, (Ext.chg1 (Ext.trans e_f1 e1) e2 (by omega))⟩
                  · skip
                    refine xc_skip ?_
                    refine xc_region ?_
                    refine xl_op (P := Try.prog) (some 23) rfl rfl (ox_move (v := (.int .i64 ((i : Nat)))) g8_f1 ?_)
                    refine xl_op (P := Try.prog) (some 24) rfl rfl (ox_add64 (a := ((i : Nat))) (b := 1) rfl rfl (by omega) ?_)
                    refine xl_op (P := Try.prog) (some 8) rfl rfl (ox_assign (v := (.int .i64 ((i : Nat) + 1))) rfl ?_)
                    refine xl_nil ?_
                    have hmv : mv1 bias p e.pl e.del e.n = e.pl + (((e.n : Nat) : Int)) := by unfold mv1; repeat' (split) <;> omega
                    have hnx : mvGo bias p ((l.map Ed.e3).drop i) = mvGo bias (e.pl + (((e.n : Nat) : Int))) ((l.map Ed.e3).drop (i + 1)) := by rw [hdr, mvGo_on (by unfold big; omega) (by rw [hmv]; unfold big; omega), hmv]
                    exact ⟨rfl, l.length - (i + 1), by omega, i + 1, e.pl + (((e.n : Nat) : Int)), by omega, by omega, by omega, by rw [hres, hnx], (by first | exact rfl | exact (congrArg (Value.int .i64) (by omega))), g1_f1, g2_f1, (by first | exact rfl | exact (congrArg (Value.int .i64) (by omega))), (Ext.chg1 (Ext.trans e_f1 e1) e2 (by omega))⟩
        · skip
          refine xc_exit ?_
          refine xc_seq ?_
          refine xc_region ?_
          refine xl_op (P := Try.prog) (some 87) rfl rfl (ox_move (v := (.int .i64 p)) g0_f1 ?_)
          refine xl_op (P := Try.prog) (some 6) rfl rfl (ox_assign (v := (.int .i64 p)) rfl ?_)
          refine xl_op (P := Try.prog) (some 7) rfl rfl (ox_assign (v := (.int .i64 0)) rfl ?_)
          refine xl_nil ?_
          refine xc_ret ?_
          change leaves _ _ _ _ _ _ _
          refine leaves_nil (n := 88) (rs := [.tmp 6, .tmp 7]) (vs := [(.int .i64 p), (.int .i64 0)]) rfl ⟨⟨by decide, rfl⟩, ⟨by decide, rfl⟩, trivial⟩ ?_
          exact ⟨by unfold move; rw [if_neg (by unfold big; omega), if_neg (by rw [hln]; omega), hres, List.drop_eq_nil_of_le (by rw [hln]; omega)]; rfl, e_f1⟩

end Go.Proofs.Ythhbnodnpajljaa
