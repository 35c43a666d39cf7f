/-
  The document's makers of nodes. No conditions.
-/
import Derived.Test.YthhbnodnpajljaaVxi
import Derived.Test.YthhbnodnpajljaaRows
import Derived.Test.YthhbnodnpajljaaRfa
set_option linter.unusedVariables false
set_option linter.unusedSimpArgs false
set_option maxRecDepth 100000
set_option maxHeartbeats 4000000
namespace Go.Proofs.Ythhbnodnpajljaa
open Go Go.RowKit Go.Vx


theorem tA_29 : isAggT Try.prog 29 = some false := by kernel_rfl
theorem tA_38 : isAggT Try.prog 38 = some false := by kernel_rfl
theorem tE_29 : sliceT Try.prog 29 = some (38, 1, 8, (.pointer none)) := by kernel_rfl
theorem tF_84_0 : fieldT Try.prog 84 0 = some 0 := by kernel_rfl
theorem tF_86_3 : fieldT Try.prog 86 3 = some 3 := by kernel_rfl
theorem tF_86_5 : fieldT Try.prog 86 5 = some 8 := by kernel_rfl
theorem tP_86 : placesT Try.prog 86 = some #[(0, 1), (1, 1), (2, 1), (3, 1), (4, 4), (8, 1)] := by kernel_rfl
theorem tS_29 : sizeT Try.prog 29 = some 1 := by kernel_rfl
theorem tU_29 : Try.prog.underlying 29 = some (.slice 38) := by kernel_rfl
theorem tZ_86 : zeroOf Try.prog 86 = some (.agg #[(.int .i64 0), (.int .i64 0), (.int .i64 0), (.int .i64 0), (.int .i64 0), (.int .i64 0), (.int .i64 0), (.int .i64 0), (.slice none 0 0)]) := by kernel_rfl

theorem one_calls (l : Lf) (w : World)  :
    Calls Try.prog 43 #[(.agg #[(.int .i64 l.kind), (.int .i64 l.skip), (.int .i64 l.len), (.int .i64 l.reach)])] w (Ret (fun v w' => ∃ b, v = .pointer (some ⟨b, 0, none⟩) ∧ w.heap.size ≤ b ∧ Blk w' b #[.int .i64 0, .int .i64 1, .int .i64 l.kind, .int .i64 1, .int .i64 l.kind, .int .i64 l.skip, .int .i64 l.len, .int .i64 l.reach, .slice none 0 0] 86 ∧ Ext w w')) := by
  refine calls_xc (n := 8) (f := fun s_ => [(.agg #[(.int .i64 l.kind), (.int .i64 l.skip), (.int .i64 l.len), (.int .i64 l.reach)])].getD s_ undef) Try.func43 rfl rfl (by simp) (fun s_ => by simp) ?_
  refine xc_seq ?_
  refine xc_region ?_
  refine xl_op (P := Try.prog) (some 1) rfl rfl (ox_box (v := (.agg #[(.int .i64 l.kind), (.int .i64 l.skip), (.int .i64 l.len), (.int .i64 l.reach)])) rfl ?_)
  intro w1 e1 z1 b1
  replace b1 : Blk w1 w.heap.size #[(.int .i64 l.kind), (.int .i64 l.skip), (.int .i64 l.len), (.int .i64 l.reach)] 84 := b1
  refine xl_op (P := Try.prog) (some 2) rfl rfl (ox_assign (v := (.pointer none)) rfl ?_)
  refine xl_nil ?_
  refine xc_seq ?_
  refine xc_region ?_
  refine xl_op (P := Try.prog) (some 3) rfl rfl (ox_fieldAddr (b := w.heap.size) (o := 0) tF_84_0 rfl ?_)
  refine xl_op (P := Try.prog) (some 4) rfl rfl (ox_load (v := (.int .i64 l.kind)) tA_3 rfl (b1.cell rfl) ?_)
  refine xl_op (P := Try.prog) (some 5) rfl rfl (ox_loadN (vs := [(.int .i64 l.kind), (.int .i64 l.skip), (.int .i64 l.len), (.int .i64 l.reach)]) tA_84 tS_84 rfl rfl ⟨b1.cell rfl, b1.cell rfl, b1.cell rfl, b1.cell rfl, trivial⟩ ?_)
  refine xl_op (P := Try.prog) (some 6) rfl rfl (ox_mkStruct (ps := [(1, (.int .i64 1)), (2, (.int .i64 l.kind)), (3, (.int .i64 1)), (4, (.agg #[(.int .i64 l.kind), (.int .i64 l.skip), (.int .i64 l.len), (.int .i64 l.reach)]))]) (cs := #[(.int .i64 0), (.int .i64 1), (.int .i64 l.kind), (.int .i64 1), (.int .i64 l.kind), (.int .i64 l.skip), (.int .i64 l.len), (.int .i64 l.reach), (.slice none 0 0)]) tZ_86 tP_86 rfl (by kernel_rfl) ?_)
  refine xl_op (P := Try.prog) (some 7) rfl rfl (ox_box (v := (.agg #[(.int .i64 0), (.int .i64 1), (.int .i64 l.kind), (.int .i64 1), (.int .i64 l.kind), (.int .i64 l.skip), (.int .i64 l.len), (.int .i64 l.reach), (.slice none 0 0)])) rfl ?_)
  intro w2 e2 z2 b2
  replace b2 : Blk w2 w1.heap.size #[(.int .i64 0), (.int .i64 1), (.int .i64 l.kind), (.int .i64 1), (.int .i64 l.kind), (.int .i64 l.skip), (.int .i64 l.len), (.int .i64 l.reach), (.slice none 0 0)] 86 := b2
  refine xl_op (P := Try.prog) (some 2) rfl rfl (ox_assign (v := (.pointer (some ⟨w1.heap.size, 0, none⟩))) rfl ?_)
  refine xl_nil ?_
  refine xc_ret ?_
  change leaves _ _ _ _ _ _ _
  refine leaves_nil (n := 8) (rs := [.tmp 2]) (vs := [(.pointer (some ⟨w1.heap.size, 0, none⟩))]) rfl ⟨⟨by decide, rfl⟩, trivial⟩ ?_
  exact ⟨_, rfl, (by omega), b2, (Ext.trans e1 e2)⟩

theorem made_calls (kind n : Int) (kids : List T) (A : Option Addr) (c : Nat) (w : World) (hR : PRL w kids) (hA : RowA w A (kids.map T.ptr)) (hsz : ∀ t ∈ kids, sz t ≤ 4194304) (hn : kids.length ≤ 17592186044416) :
    Calls Try.prog 44 #[(.int .i64 kind), (.int .i64 n), (.slice A kids.length c)] w (Ret (fun v w' => (badKind kind n ∧ v = .tuple #[.pointer none, .int .i64 101] ∧ Ext w w') ∨ (¬ badKind kind n ∧ 4194304 < 1 + szL kids ∧ v = .tuple #[.pointer none, .int .i64 6] ∧ Ext w w') ∨ (¬ badKind kind n ∧ 1 + szL kids ≤ 4194304 ∧ ∃ b ka kc, v = .tuple #[.pointer (some ⟨b, 0, none⟩), .int .i64 0] ∧ w.heap.size ≤ b ∧ (∀ k ∈ ka, w.heap.size ≤ k) ∧ Blk w' b #[.int .i64 0, .int .i64 kind, .int .i64 n, .int .i64 (1 + szL kids), .int .i64 0, .int .i64 0, .int .i64 0, .int .i64 0, kidsV ka kids.length kc] 86 ∧ kids.length ≤ kc ∧ rowR w' ka kids ∧ Ext w w'))) := by
  refine calls_xc (n := 61) (f := fun s_ => [(.int .i64 kind), (.int .i64 n), (.slice A kids.length c)].getD s_ undef) Try.func44 rfl rfl (by simp) (fun s_ => by simp) ?_
  refine xc_seq ?_
  refine xc_region ?_
  refine xl_op (P := Try.prog) (some 6) rfl rfl (ox_assign (v := (.pointer none)) rfl ?_)
  refine xl_op (P := Try.prog) (some 7) rfl rfl (ox_assign (v := (.int .i64 0)) rfl ?_)
  refine xl_nil ?_
  refine xc_seq ?_
  refine xc_seq ?_
  refine xc_region ?_
  refine xl_op (P := Try.prog) (some 11) rfl rfl (ox_move (v := (.int .i64 kind)) rfl ?_)
  refine xl_op (P := Try.prog) (some 12) rfl rfl (ox_lss (k := .i64) (a := kind) (b := 2) rfl rfl ?_)
  refine xl_op (P := Try.prog) (some 13) rfl rfl (ox_move (v := (.bool (decide ((kind : Int) < 2)))) rfl ?_)
  refine xl_may (P := Try.prog) (some 14) (j := 2) (b := false) (((decide ((kind : Int) < 2))) = false) (.bool (decide ((kind : Int) < 2))) (.int .i64 kind) rfl rfl rfl (may_b ((decide ((kind : Int) < 2))) false) (fun hp => ox_move (v := (.int .i64 kind)) rfl ⟨rfl, rfl⟩) ?_
  refine xl_may (P := Try.prog) (some 15) (j := 2) (b := false) (((decide ((kind : Int) < 2))) = false) (.bool (decide ((kind : Int) < 2))) (.bool (decide ((5 : Int) < kind))) rfl rfl rfl (may_b ((decide ((kind : Int) < 2))) false) (fun hp => ox_gtr (k := .i64) (a := kind) (b := 5) (if_pos (α := Value) (t := (.int .i64 kind)) (e := undef) hp) rfl ⟨rfl, rfl⟩) ?_
  refine xl_op (P := Try.prog) (some 16) rfl rfl (ox_pick_or (a := ((decide ((kind : Int) < 2)))) (b := ((decide ((5 : Int) < kind)))) rfl rfl (fun ha => (if_pos (α := Value) (t := (.bool (decide ((5 : Int) < kind)))) (e := undef) ha)) ?_)
  refine xl_op (P := Try.prog) (some 17) rfl rfl (ox_move (v := (.bool (((decide ((kind : Int) < 2))) || ((decide ((5 : Int) < kind)))))) rfl ?_)
  refine xl_may (P := Try.prog) (some 18) (j := 6) (b := false) (((((decide ((kind : Int) < 2))) || ((decide ((5 : Int) < kind))))) = false) (.bool (((decide ((kind : Int) < 2))) || ((decide ((5 : Int) < kind))))) (.int .i64 n) rfl rfl rfl (may_b ((((decide ((kind : Int) < 2))) || ((decide ((5 : Int) < kind))))) false) (fun hp => ox_move (v := (.int .i64 n)) rfl ⟨rfl, rfl⟩) ?_
  refine xl_may (P := Try.prog) (some 19) (j := 6) (b := false) (((((decide ((kind : Int) < 2))) || ((decide ((5 : Int) < kind))))) = false) (.bool (((decide ((kind : Int) < 2))) || ((decide ((5 : Int) < kind))))) (.bool (decide ((n : Int) < 0))) rfl rfl rfl (may_b ((((decide ((kind : Int) < 2))) || ((decide ((5 : Int) < kind))))) false) (fun hp => ox_lss (k := .i64) (a := n) (b := 0) (if_pos (α := Value) (t := (.int .i64 n)) (e := undef) hp) rfl ⟨rfl, rfl⟩) ?_
  refine xl_op (P := Try.prog) (some 20) rfl rfl (ox_pick_or (a := ((((decide ((kind : Int) < 2))) || ((decide ((5 : Int) < kind)))))) (b := ((decide ((n : Int) < 0)))) rfl rfl (fun ha => (if_pos (α := Value) (t := (.bool (decide ((n : Int) < 0)))) (e := undef) ha)) ?_)
  refine xl_op (P := Try.prog) (some 21) rfl rfl (ox_move (v := (.bool (((((decide ((kind : Int) < 2))) || ((decide ((5 : Int) < kind))))) || ((decide ((n : Int) < 0)))))) rfl ?_)
  refine xl_may (P := Try.prog) (some 22) (j := 10) (b := false) (((((((decide ((kind : Int) < 2))) || ((decide ((5 : Int) < kind))))) || ((decide ((n : Int) < 0))))) = false) (.bool (((((decide ((kind : Int) < 2))) || ((decide ((5 : Int) < kind))))) || ((decide ((n : Int) < 0))))) (.int .i64 n) rfl rfl rfl (may_b ((((((decide ((kind : Int) < 2))) || ((decide ((5 : Int) < kind))))) || ((decide ((n : Int) < 0))))) false) (fun hp => ox_move (v := (.int .i64 n)) rfl ⟨rfl, rfl⟩) ?_
  refine xl_may (P := Try.prog) (some 23) (j := 10) (b := false) (((((((decide ((kind : Int) < 2))) || ((decide ((5 : Int) < kind))))) || ((decide ((n : Int) < 0))))) = false) (.bool (((((decide ((kind : Int) < 2))) || ((decide ((5 : Int) < kind))))) || ((decide ((n : Int) < 0))))) (.bool (decide ((n : Int) ≠ 0))) rfl rfl rfl (may_b ((((((decide ((kind : Int) < 2))) || ((decide ((5 : Int) < kind))))) || ((decide ((n : Int) < 0))))) false) (fun hp => ox_neq (k := .i64) (a := n) (b := 0) (if_pos (α := Value) (t := (.int .i64 n)) (e := undef) hp) rfl ⟨rfl, rfl⟩) ?_
  refine xl_may (P := Try.prog) (some 24) (j := 10) (b := false) (((((((decide ((kind : Int) < 2))) || ((decide ((5 : Int) < kind))))) || ((decide ((n : Int) < 0))))) = false) (.bool (((((decide ((kind : Int) < 2))) || ((decide ((5 : Int) < kind))))) || ((decide ((n : Int) < 0))))) (.bool (decide ((n : Int) ≠ 0))) rfl rfl rfl (may_b ((((((decide ((kind : Int) < 2))) || ((decide ((5 : Int) < kind))))) || ((decide ((n : Int) < 0))))) false) (fun hp => ox_move (v := (.bool (decide ((n : Int) ≠ 0)))) (if_pos (α := Value) (t := (.bool (decide ((n : Int) ≠ 0)))) (e := undef) hp) ⟨rfl, rfl⟩) ?_
  refine xl_may (P := Try.prog) (some 25) (j := 13) (b := true) ((((((((decide ((kind : Int) < 2))) || ((decide ((5 : Int) < kind))))) || ((decide ((n : Int) < 0))))) = false) ∧ ((decide ((n : Int) ≠ 0))) = true) (if ((((((decide ((kind : Int) < 2))) || ((decide ((5 : Int) < kind))))) || ((decide ((n : Int) < 0))))) = false then (.bool (decide ((n : Int) ≠ 0))) else undef) (.int .i64 kind) rfl rfl rfl (may_i _ ((decide ((n : Int) ≠ 0))) true) (fun hp => ox_move (v := (.int .i64 kind)) rfl ⟨rfl, rfl⟩) ?_
  refine xl_may (P := Try.prog) (some 26) (j := 13) (b := true) ((((((((decide ((kind : Int) < 2))) || ((decide ((5 : Int) < kind))))) || ((decide ((n : Int) < 0))))) = false) ∧ ((decide ((n : Int) ≠ 0))) = true) (if ((((((decide ((kind : Int) < 2))) || ((decide ((5 : Int) < kind))))) || ((decide ((n : Int) < 0))))) = false then (.bool (decide ((n : Int) ≠ 0))) else undef) (.bool (decide ((kind : Int) ≠ 2))) rfl rfl rfl (may_i _ ((decide ((n : Int) ≠ 0))) true) (fun hp => ox_neq (k := .i64) (a := kind) (b := 2) (if_pos (α := Value) (t := (.int .i64 kind)) (e := undef) hp) rfl ⟨rfl, rfl⟩) ?_
  refine xl_may (P := Try.prog) (some 27) (j := 10) (b := false) (((((((decide ((kind : Int) < 2))) || ((decide ((5 : Int) < kind))))) || ((decide ((n : Int) < 0))))) = false) (.bool (((((decide ((kind : Int) < 2))) || ((decide ((5 : Int) < kind))))) || ((decide ((n : Int) < 0))))) (.bool (((decide ((n : Int) ≠ 0))) && ((decide ((kind : Int) ≠ 2))))) rfl rfl rfl (may_b ((((((decide ((kind : Int) < 2))) || ((decide ((5 : Int) < kind))))) || ((decide ((n : Int) < 0))))) false) (fun hp => ox_pick_and (a := ((decide ((n : Int) ≠ 0)))) (b := ((decide ((kind : Int) ≠ 2)))) (if_pos (α := Value) (t := (.bool (decide ((n : Int) ≠ 0)))) (e := undef) hp) (fun ha => (if_pos (α := Value) (t := (.bool (decide ((kind : Int) ≠ 2)))) (e := undef) ⟨hp, ha⟩)) rfl ⟨rfl, rfl⟩) ?_
  refine xl_op (P := Try.prog) (some 28) rfl rfl (ox_pick_or (a := ((((((decide ((kind : Int) < 2))) || ((decide ((5 : Int) < kind))))) || ((decide ((n : Int) < 0)))))) (b := ((((decide ((n : Int) ≠ 0))) && ((decide ((kind : Int) ≠ 2)))))) rfl rfl (fun ha => (if_pos (α := Value) (t := (.bool (((decide ((n : Int) ≠ 0))) && ((decide ((kind : Int) ≠ 2)))))) (e := undef) ha)) ?_)
  refine xl_nil ?_
  refine xc_cond (b := (((((((decide ((kind : Int) < 2))) || ((decide ((5 : Int) < kind))))) || ((decide ((n : Int) < 0))))) || ((((decide ((n : Int) ≠ 0))) && ((decide ((kind : Int) ≠ 2))))))) rfl (fun h1 => ?_) (fun h1 => ?_)
  · skip
    have h1' := h1
    try simp only [Bool.or_eq_true, Bool.and_eq_true, decide_eq_true_eq, Bool.or_eq_false_iff, Bool.and_eq_false_iff, decide_eq_false_iff_not, Bool.not_eq_true', Bool.not_eq_false'] at h1'
    have hbk : badKind kind n := by unfold badKind; omega
    refine xc_seq ?_
    refine xc_region ?_
    refine xl_op (P := Try.prog) (some 6) rfl rfl (ox_assign (v := (.pointer none)) rfl ?_)
    refine xl_op (P := Try.prog) (some 7) rfl rfl (ox_assign (v := (.int .i64 101)) rfl ?_)
    refine xl_nil ?_
    refine xc_ret ?_
    change leaves _ _ _ _ _ _ _
    refine leaves_nil (n := 61) (rs := [.tmp 6, .tmp 7]) (vs := [(.pointer none), (.int .i64 101)]) rfl ⟨⟨by decide, rfl⟩, ⟨by decide, rfl⟩, trivial⟩ ?_
    exact .inl ⟨hbk, rfl, (Chg.refl _ _)⟩
  · skip
    have h1' := h1
    try simp only [Bool.or_eq_true, Bool.and_eq_true, decide_eq_true_eq, Bool.or_eq_false_iff, Bool.and_eq_false_iff, decide_eq_false_iff_not, Bool.not_eq_true', Bool.not_eq_false'] at h1'
    have hbk : ¬ badKind kind n := by unfold badKind; omega
    refine xc_skip ?_
    refine xc_seq ?_
    refine xc_region ?_
    refine xl_op (P := Try.prog) (some 8) rfl rfl (ox_assign (v := (.int .i64 1)) rfl ?_)
    refine xl_nil ?_
    refine xc_seq ?_
    refine xc_seq ?_
    refine xc_region ?_
    refine xl_op (P := Try.prog) (some 9) rfl rfl (ox_assign (v := (.int .i64 0)) rfl ?_)
    refine xl_nil ?_
    refine xc_block ?_
    refine xc_loopN (fun m f W => ∃ (i : Nat), m = kids.length - i ∧ i ≤ kids.length ∧ 1 + szL (kids.take i) ≤ 4194304 ∧ f 0 = (.int .i64 kind) ∧ f 1 = (.int .i64 n) ∧ f 2 = (.slice A kids.length c) ∧ f 8 = (.int .i64 (1 + szL (kids.take i))) ∧ f 9 = (.int .i64 ((i : Nat))) ∧ Ext w W) (kids.length) ?_ ?_
    · exact ⟨0, by omega, by omega, by simp [szL], rfl, rfl, rfl, (by first | exact rfl | exact (congrArg (Value.int .i64) (by omega))), (by first | exact rfl | exact (congrArg (Value.int .i64) (by omega))), (Chg.refl _ _)⟩
    · rintro m f1 w1 ⟨i, hm, hi, hle, g0_f1, g1_f1, g2_f1, g8_f1, g9_f1, e_f1⟩
      have hzE := e_f1.size
      refine xc_seq ?_
      refine xc_seq ?_
      refine xc_region ?_
      refine xl_op (P := Try.prog) (some 29) rfl rfl (ox_move (v := (.int .i64 ((i : Nat)))) g9_f1 ?_)
      refine xl_op (P := Try.prog) (some 30) rfl rfl (ox_move (v := (.slice A kids.length c)) g2_f1 ?_)
      refine xl_op (P := Try.prog) (some 31) rfl rfl (ox_len (A := A) (n := kids.length) (cp := c) rfl tU_29 rfl ?_)
      refine xl_op (P := Try.prog) (some 32) rfl rfl (ox_lss (k := .i64) (a := ((i : Nat))) (b := (((kids.length : Nat) : Int))) rfl rfl ?_)
      refine xl_nil ?_
      refine xc_if (p := ((i : Nat) : Int) < (((kids.length : Nat) : Int))) rfl (fun h2 => ?_) (fun h2 => ?_)
      · skip
        have hik : i < kids.length := by omega
        obtain ⟨u, hu⟩ := get_ex (l := kids) (i := i) hik
        have hpu := hR.get hu
        have hsc := szL_succ hu
        have hsu := hsz u (List.mem_of_getElem? hu)
        have hsp := sz_pos u
        have hnn := szL_nonneg (kids.take i)
        obtain ⟨g, o, rfl⟩ := hA.ex (by intro hh; cases kids with | nil => simp at hu | cons q l => simp at hh)
        have hcu : w.cell? ⟨g, o + i, none⟩ = some u.ptr := cellsL_get hA.cells (by simp [hu])
        refine xc_skip ?_
        refine xc_seq ?_
        refine xc_block ?_
        refine xc_seq ?_
        refine xc_region ?_
        refine xl_op (P := Try.prog) (some 35) rfl rfl (ox_move (v := (.int .i64 (1 + szL (kids.take i)))) g8_f1 ?_)
        refine xl_op (P := Try.prog) (some 36) rfl rfl (ox_move (v := (.slice (some ⟨g, o, none⟩) kids.length c)) g2_f1 ?_)
        refine xl_op (P := Try.prog) (some 37) rfl rfl (ox_move (v := (.int .i64 ((i : Nat)))) g9_f1 ?_)
        refine xl_op (P := Try.prog) (some 38) rfl rfl (ox_indexAddr (b := g) (o := o) (i := ((i : Nat))) tE_29 rfl rfl (by omega) (by omega) ?_)
        refine xl_op (P := Try.prog) (some 39) rfl rfl (ox_load (v := (.pointer (some ⟨u.b, 0, none⟩))) tA_38 rfl (by simpa [T.ptr] using Ext.cell hcu e_f1) ?_)
        refine xl_op (P := Try.prog) (some 40) rfl rfl (ox_nilCheck (p := ⟨u.b, 0, none⟩) rfl ?_)
        refine xl_op (P := Try.prog) (some 41) rfl rfl (ox_fieldAddr (b := u.b) (o := 0) tF_86_3 rfl ?_)
        refine xl_op (P := Try.prog) (some 42) rfl rfl (ox_load (v := (.int .i64 (sz u))) tA_3 rfl ((hpu.blk.ext e_f1).cell rfl) ?_)
        refine xl_op (P := Try.prog) (some 43) rfl rfl (ox_add64 (a := (1 + szL (kids.take i))) (b := (sz u)) rfl rfl (by omega) ?_)
        refine xl_op (P := Try.prog) (some 8) rfl rfl (ox_assign (v := (.int .i64 (1 + szL (kids.take i) + (sz u)))) rfl ?_)
        refine xl_nil ?_
        refine xc_seq ?_
        refine xc_region ?_
        refine xl_op (P := Try.prog) (some 44) rfl rfl (ox_move (v := (.int .i64 (1 + szL (kids.take i) + (sz u)))) rfl ?_)
        refine xl_op (P := Try.prog) (some 45) rfl rfl (ox_gtr (k := .i64) (a := (1 + szL (kids.take i) + (sz u))) (b := 4194304) rfl rfl ?_)
        refine xl_nil ?_
        refine xc_if (p := (4194304 : Int) < (1 + szL (kids.take i) + (sz u))) rfl (fun h3 => ?_) (fun h3 => ?_)
        · skip
          refine xc_seq ?_
          refine xc_region ?_
          refine xl_op (P := Try.prog) (some 6) rfl rfl (ox_assign (v := (.pointer none)) rfl ?_)
          refine xl_op (P := Try.prog) (some 7) rfl rfl (ox_assign (v := (.int .i64 6)) rfl ?_)
          refine xl_nil ?_
          refine xc_ret ?_
          change leaves _ _ _ _ _ _ _
          refine leaves_nil (n := 61) (rs := [.tmp 6, .tmp 7]) (vs := [(.pointer none), (.int .i64 6)]) rfl ⟨⟨by decide, rfl⟩, ⟨by decide, rfl⟩, trivial⟩ ?_
          exact .inr (.inl ⟨hbk, by have h8 := szL_take kids (i + 1); rw [hsc] at h8; omega, rfl, e_f1⟩)
        · skip
          refine xc_skip ?_
          refine xc_region ?_
          refine xl_op (P := Try.prog) (some 33) rfl rfl (ox_move (v := (.int .i64 ((i : Nat)))) g9_f1 ?_)
          refine xl_op (P := Try.prog) (some 34) rfl rfl (ox_add64 (a := ((i : Nat))) (b := 1) rfl rfl (by omega) ?_)
          refine xl_op (P := Try.prog) (some 9) rfl rfl (ox_assign (v := (.int .i64 ((i : Nat) + 1))) rfl ?_)
          refine xl_nil ?_
          exact ⟨rfl, kids.length - (i + 1), by omega, i + 1, by omega, by omega, by rw [hsc]; omega, g0_f1, g1_f1, g2_f1, (by first | exact rfl | exact (congrArg (Value.int .i64) (by omega))), (by first | exact rfl | exact (congrArg (Value.int .i64) (by omega))), e_f1⟩
      · skip
        have hik : i = kids.length := by omega
        have hle2 : 1 + szL kids ≤ 4194304 := by rw [hik, List.take_length] at hle; exact hle
        refine xc_exit ?_
        refine xc_seq ?_
        refine xc_region ?_
        refine xl_op (P := Try.prog) (some 46) rfl rfl (ox_move (v := (.int .i64 kind)) g0_f1 ?_)
        refine xl_op (P := Try.prog) (some 47) rfl rfl (ox_move (v := (.int .i64 n)) g1_f1 ?_)
        refine xl_op (P := Try.prog) (some 48) rfl rfl (ox_move (v := (.int .i64 (1 + szL (kids.take i)))) g8_f1 ?_)
        refine xl_op (P := Try.prog) (some 49) rfl rfl (ox_mkStruct (ps := [(1, (.int .i64 kind)), (2, (.int .i64 n)), (3, (.int .i64 (1 + szL (kids.take i))))]) (cs := #[(.int .i64 0), (.int .i64 kind), (.int .i64 n), (.int .i64 (1 + szL (kids.take i))), (.int .i64 0), (.int .i64 0), (.int .i64 0), (.int .i64 0), (.slice none 0 0)]) tZ_86 tP_86 rfl (by kernel_rfl) ?_)
        refine xl_op (P := Try.prog) (some 50) rfl rfl (ox_box (v := (.agg #[(.int .i64 0), (.int .i64 kind), (.int .i64 n), (.int .i64 (1 + szL (kids.take i))), (.int .i64 0), (.int .i64 0), (.int .i64 0), (.int .i64 0), (.slice none 0 0)])) rfl ?_)
        intro w2 e1 z1 b1
        replace b1 : Blk w2 w1.heap.size #[(.int .i64 0), (.int .i64 kind), (.int .i64 n), (.int .i64 (1 + szL (kids.take i))), (.int .i64 0), (.int .i64 0), (.int .i64 0), (.int .i64 0), (.slice none 0 0)] 86 := b1
        refine xl_op (P := Try.prog) (some 10) rfl rfl (ox_assign (v := (.pointer (some ⟨w1.heap.size, 0, none⟩))) rfl ?_)
        refine xl_nil ?_
        refine xc_seq ?_
        refine xc_region ?_
        refine xl_op (P := Try.prog) (some 51) rfl rfl (ox_move (v := (.pointer (some ⟨w1.heap.size, 0, none⟩))) rfl ?_)
        refine xl_op (P := Try.prog) (some 52) rfl rfl (ox_move (v := (.pointer (some ⟨w1.heap.size, 0, none⟩))) rfl ?_)
        refine xl_op (P := Try.prog) (some 53) rfl rfl (ox_nilCheck (p := ⟨w1.heap.size, 0, none⟩) rfl ?_)
        refine xl_op (P := Try.prog) (some 54) rfl rfl (ox_fieldAddr (b := w1.heap.size) (o := 0) tF_86_5 rfl ?_)
        refine xl_op (P := Try.prog) (some 55) rfl rfl (ox_load (v := (.slice none 0 0)) tA_29 rfl (b1.cell rfl) ?_)
        refine xl_op (P := Try.prog) (some 56) rfl rfl (ox_move (v := (.slice A kids.length c)) g2_f1 ?_)
        refine xl_op (P := Try.prog) (some 57) rfl rfl (ox_appendR (n := 0) (m := kids.length) (xs := ([])) (news := ((kids.map T.ptr))) rfl tE_29 rfl (by decide) (v := (.slice none 0 0)) rfl rfl (Vx.Own.nil w2 38 1) (by simp) (RowA.ext hA (Ext.trans e_f1 e1)) (by simp [T.ptr, Value.oneCell']) (by omega) (by omega) ?_)
        intro v1 w3 o1 e2 at1 nil1
        have he2 := e2.size
        obtain ⟨A1, c1, rfl, hc1⟩ := o1.shape
        have low1 : ∀ _k, (Value.slice A1 (0 + kids.length) c1).ownBlock = some _k → w1.heap.size ≤ _k := fun _k _h => by rcases at1 with _e | _e <;> rw [_e] at _h; exact (fun _k _h => by simp [Value.ownBlock] at _h) _k _h; exact (by cases _h; omega)
        replace o1 : Vx.Own w3 38 1 (.slice A1 (0 + kids.length) c1) (0 + kids.length) ((kids.map T.ptr)) := by simpa using o1
        refine xl_op (P := Try.prog) (some 58) rfl rfl (ox_nilCheck (p := ⟨w1.heap.size, 0, none⟩) rfl ?_)
        refine xl_op (P := Try.prog) (some 59) rfl rfl (ox_fieldAddr (b := w1.heap.size) (o := 0) tF_86_5 rfl ?_)
        have q1 := (b1.keep e2 (fun _h => (Vx.Own.nil w2 38 1).ne_blk b1 (by decide) _ _h rfl))
        refine xl_op (P := Try.prog) none rfl rfl (ox_store (n := 1) (vs := [(.slice A1 (0 + kids.length) c1)]) tS_29 rfl (v := (.slice A1 (0 + kids.length) c1)) rfl rfl rfl rfl q1 (Nat.le_of_ble_eq_true rfl) ?_)
        intro w4 e3 z2 b2
        replace b2 : Blk w4 w1.heap.size #[(.int .i64 0), (.int .i64 kind), (.int .i64 n), (.int .i64 (1 + szL (kids.take i))), (.int .i64 0), (.int .i64 0), (.int .i64 0), (.int .i64 0), (.slice A1 (0 + kids.length) c1)] 86 := b2
        refine xl_nil ?_
        refine xc_seq ?_
        refine xc_region ?_
        refine xl_op (P := Try.prog) (some 60) rfl rfl (ox_move (v := (.pointer (some ⟨w1.heap.size, 0, none⟩))) rfl ?_)
        refine xl_op (P := Try.prog) (some 6) rfl rfl (ox_assign (v := (.pointer (some ⟨w1.heap.size, 0, none⟩))) rfl ?_)
        refine xl_op (P := Try.prog) (some 7) rfl rfl (ox_assign (v := (.int .i64 0)) rfl ?_)
        refine xl_nil ?_
        refine xc_ret ?_
        change leaves _ _ _ _ _ _ _
        refine leaves_nil (n := 61) (rs := [.tmp 6, .tmp 7]) (vs := [(.pointer (some ⟨w1.heap.size, 0, none⟩)), (.int .i64 0)]) rfl ⟨⟨by decide, rfl⟩, ⟨by decide, rfl⟩, trivial⟩ ?_
        have q2 := (o1.keep1 e3 (fun k hk => o1.ne_blk q1 (by decide) k hk))
        have hO := q2
        have hB := b2
        rw [Nat.zero_add] at hO hB
        rw [show 1 + szL (kids.take i) = 1 + szL kids by rw [hik, List.take_length]] at hB
        have hE := (Ext.chg1 (Chg.trans (Ext.trans e_f1 e1) e2 (fun b hb hl => by simp [Value.ownBlock] at hb)) e3 (by omega))
        have hcc := hc1
        have hlo := low1
        rw [Nat.zero_add] at hlo
        rcases hO.form with ⟨h1, h2, h3⟩ | ⟨g1, cap1, cur1, h1, hb1, hn1, _, hs1, ht1⟩
        · simp only [Value.slice.injEq] at h1; obtain ⟨rfl, _, rfl⟩ := h1; exact .inr (.inr ⟨hbk, hle2, _, none, 0, rfl, (by omega), (by simp), hB, (by omega), List.eq_nil_of_length_eq_zero h2, hE⟩)
        · simp only [Value.slice.injEq] at h1; obtain ⟨rfl, _, rfl⟩ := h1; exact .inr (.inr ⟨hbk, hle2, _, some g1, _, rfl, (by omega), (by intro k hk; simp at hk; subst hk; have h9 := hlo g1 rfl; omega), hB, (by omega), ⟨cur1, hb1, by simpa using ht1⟩, hE⟩)

theorem made2_calls (kind n : Int) (kids : List T) (A : Option Addr) (c : Nat) (w : World) (hR : PRL w kids) (hA : RowA w A (kids.map T.ptr)) (hsz : ∀ t ∈ kids, sz t ≤ 4194304) (hn : kids.length ≤ 17592186044416) :
    Calls Try.prog 44 #[.int .i64 kind, .int .i64 n, .slice A kids.length c] w (Ret fun v w' => ∃ (o : Option Addr) (er : Int), v = .tuple #[.pointer o, .int .i64 er] ∧
      (er = 0 → ¬ badKind kind n ∧ 1 + szL kids ≤ 4194304 ∧ ∃ b ka kc, o = some ⟨b, 0, none⟩ ∧ w.heap.size ≤ b ∧ (∀ k ∈ ka, w.heap.size ≤ k) ∧ Blk w' b #[.int .i64 0, .int .i64 kind, .int .i64 n, .int .i64 (1 + szL kids), .int .i64 0, .int .i64 0, .int .i64 0, .int .i64 0, kidsV ka kids.length kc] 86 ∧ kids.length ≤ kc ∧ rowR w' ka kids) ∧
      (er ≠ 0 → (badKind kind n ∧ o = none ∧ er = 101) ∨ (¬ badKind kind n ∧ 4194304 < 1 + szL kids ∧ o = none ∧ er = 6)) ∧ Ext w w') := by
  refine ret_mono (made_calls kind n kids A c w hR hA hsz hn) ?_
  rintro v w' (⟨h, rfl, he⟩ | ⟨h, h2, rfl, he⟩ | ⟨h, h2, b, ka, kc, rfl, r⟩)
  · exact ⟨none, 101, rfl, (fun h => by omega), fun _ => .inl ⟨h, rfl, rfl⟩, he⟩
  · exact ⟨none, 6, rfl, (fun h => by omega), fun _ => .inr ⟨h, h2, rfl, rfl⟩, he⟩
  · exact ⟨some ⟨b, 0, none⟩, 0, rfl, fun _ => ⟨h, h2, b, ka, kc, rfl, r.1, r.2.1, r.2.2.1, r.2.2.2.1, r.2.2.2.2.1⟩, (fun h => absurd rfl h), r.2.2.2.2.2⟩

end Go.Proofs.Ythhbnodnpajljaa
