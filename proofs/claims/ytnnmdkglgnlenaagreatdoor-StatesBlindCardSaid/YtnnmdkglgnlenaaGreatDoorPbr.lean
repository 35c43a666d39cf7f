/-
  Part 18 of the proof: texts Tz Ue Ul Uj. No conditions.
-/
import Derived.Test.YtnnmdkglgnlenaaGreatDoorRows
import Derived.Test.YtnnmdkglgnlenaaGreatDoorPbc
import Derived.Test.YtnnmdkglgnlenaaGreatDoorPbe
import Derived.Test.YtnnmdkglgnlenaaGreatDoorPbi
import Derived.Test.YtnnmdkglgnlenaaGreatDoorPbq
set_option linter.unusedVariables false
set_option linter.unusedSimpArgs false
set_option maxRecDepth 100000
set_option maxHeartbeats 4000000
namespace Go.Proofs.YtnnmdkglgnlenaaGreatDoor
open Go Go.RowKit Go.Vx
theorem RowA.blk {w : World} {b t : Nat} {cs : Array Value} {vs : List Value} (h : Blk w b cs t) (hv : cs.toList = vs) : RowA w (some ⟨b, 0, none⟩) vs := by
  subst hv
  exact ⟨fun _ => rfl, h.all⟩
theorem small_builtG : builtG smallG = some smallA := by
  unfold builtG
  rw [if_pos (by rw [small_check]), small_built]
theorem build_calls2 (s : SP) (w : World) (hS : SpR w s) (hT : TabP w) : Calls Tryz.prog 34 #[(.agg #[(.slice s.lA s.lex.length s.lc), (.slice s.nA s.names.length s.nc), (.int .i64 s.start), (.slice s.pA s.prods.length s.pc)])] w (Ret fun v w' => ∃ (p : Option Addr) (k a : Int), v = .tuple #[.pointer p, .agg #[.int .i64 k, .int .i64 a, .string ⟨#[]⟩]] ∧ Ext w w' ∧ ((k ≠ 0 ∧ p = none ∧ builtG s.g = none) ∨ (k = 0 ∧ a = 0 ∧ ∃ ba st, p = some ⟨ba, 0, none⟩ ∧ builtG s.g = some st ∧ AutX w.heap.size w' s ba st))) := by
  refine ret_mono (build_calls s w hS hT) ?_
  rintro v w' ⟨he, ⟨h1, rfl⟩ | ⟨h1, h2, rfl⟩ | ⟨h1, s2, ba, sA, sc, sts, h2, h3, h4, rfl⟩⟩
  · exact ⟨_, _, _, rfl, he, .inl ⟨h1, rfl, by unfold builtG; rw [if_neg h1]⟩⟩
  · exact ⟨_, _, _, rfl, he, .inl ⟨by decide, rfl, by unfold builtG; rw [if_pos h1, h2]⟩⟩
  · exact ⟨_, _, _, rfl, he, .inr ⟨rfl, rfl, ba, _, rfl, by unfold builtG; rw [if_pos h1, h2], ⟨⟨s2, sA, sc, sts, rfl, h3, h4⟩, Aut.of h1 h2⟩⟩⟩
theorem fS_75 : flatS Tryz.prog 75 [.int .i64, .int .i64, .str] = true := by kernel_rfl
theorem pf_13 : plainF Tryz.prog 13 = true := by kernel_rfl
theorem pf_23 : plainF Tryz.prog 23 = true := by kernel_rfl
theorem pf_24 : plainF Tryz.prog 24 = true := by kernel_rfl
theorem pf_25 : plainF Tryz.prog 25 = true := by kernel_rfl
theorem pf_26 : plainF Tryz.prog 26 = true := by kernel_rfl
theorem pf_30 : plainF Tryz.prog 30 = true := by kernel_rfl
theorem pf_31 : plainF Tryz.prog 31 = true := by kernel_rfl
theorem pf_34 : plainF Tryz.prog 34 = true := by kernel_rfl
theorem pf_44 : plainF Tryz.prog 44 = true := by kernel_rfl
theorem tU_28 : Tryz.prog.underlying 28 = some (.pointer 97) := by kernel_rfl
theorem tU_68 : Tryz.prog.underlying 68 = some (.func #[106] #[] false) := by kernel_rfl
theorem all_calls (ba : Nat) (w : World)  :
    Calls Tryz.prog 31 #[(.pointer (some ⟨ba, 0, none⟩))] w (Ret (fun v w' => ∃ b, v = .func (.func 54) #[] #[.pointer (some ⟨b, 0, none⟩)] ∧ Blk w' b #[.pointer (some ⟨ba, 0, none⟩)] 28 ∧ b = w.heap.size ∧ Ext w w')) := by
  refine calls_xc (n := 4) (f := fun s_ => [(.pointer (some ⟨ba, 0, none⟩))].getD s_ undef) Tryz.func31 rfl rfl (by simp) (fun s_ => by simp) ?_
  refine xc_seq ?_
  refine xc_region ?_
  refine xl_op (P := Tryz.prog) (some 1) rfl rfl (ox_box (v := (.pointer (some ⟨ba, 0, none⟩))) rfl ?_)
  intro w1 e1 z1 b1
  replace b1 : Blk w1 w.heap.size #[(.pointer (some ⟨ba, 0, none⟩))] 28 := b1
  refine xl_op (P := Tryz.prog) (some 2) rfl rfl (ox_assign (v := .nilFunc) rfl ?_)
  refine xl_nil ?_
  refine xc_seq ?_
  refine xc_region ?_
  refine xl_op (P := Tryz.prog) (some 3) rfl rfl (ox_mkFunc (cs := [(.pointer (some ⟨w.heap.size, 0, none⟩))]) rfl ?_)
  refine xl_op (P := Tryz.prog) (some 2) rfl rfl (ox_assign (v := (.func (.func 54) #[] #[(.pointer (some ⟨w.heap.size, 0, none⟩))])) rfl ?_)
  refine xl_nil ?_
  refine xc_ret ?_
  change leaves _ _ _ _ _ _ _
  refine leaves_nil (n := 4) (rs := [.tmp 2]) (vs := [(.func (.func 54) #[] #[(.pointer (some ⟨w.heap.size, 0, none⟩))])]) rfl ⟨⟨by decide, rfl⟩, trivial⟩ ?_
  exact ⟨_, rfl, b1, rfl, e1⟩
theorem built_calls (s : SP) (w : World) (hS : SpR w s) (hT : TabP w) :
    Calls Tryz.prog 9 #[(.agg #[(.slice s.lA s.lex.length s.lc), (.slice s.nA s.names.length s.nc), (.int .i64 s.start), (.slice s.pA s.prods.length s.pc)])] w (Ret (fun v w' => Ext w w' ∧ ((builtG s.g = none ∧ v = .pointer none) ∨ ∃ s1 ba st, s1.g = s.g ∧ builtG s.g = some st ∧ (∃ B, w.heap.size ≤ B ∧ AutX B w' s1 ba st) ∧ v = .pointer (some ⟨ba, 0, none⟩)))) := by
  refine calls_xc (n := 15) (f := fun s_ => [(.agg #[(.slice s.lA s.lex.length s.lc), (.slice s.nA s.names.length s.nc), (.int .i64 s.start), (.slice s.pA s.prods.length s.pc)])].getD s_ undef) Tryz.func9 rfl rfl (by simp) (fun s_ => by simp) ?_
  refine xc_seq ?_
  refine xc_region ?_
  refine xl_op (P := Tryz.prog) (some 1) rfl rfl (ox_box (v := (.agg #[(.slice s.lA s.lex.length s.lc), (.slice s.nA s.names.length s.nc), (.int .i64 s.start), (.slice s.pA s.prods.length s.pc)])) rfl ?_)
  intro w1 e1 z1 b1
  replace b1 : Blk w1 w.heap.size #[(.slice s.lA s.lex.length s.lc), (.slice s.nA s.names.length s.nc), (.int .i64 s.start), (.slice s.pA s.prods.length s.pc)] 26 := b1
  refine xl_op (P := Tryz.prog) (some 2) rfl rfl (ox_assign (v := (.pointer none)) rfl ?_)
  refine xl_nil ?_
  refine xc_seq ?_
  refine xc_region ?_
  refine xl_op (P := Tryz.prog) (some 6) rfl rfl (ox_loadN (vs := [(.slice s.lA s.lex.length s.lc), (.slice s.nA s.names.length s.nc), (.int .i64 s.start), (.slice s.pA s.prods.length s.pc)]) tA_26 tS_26 rfl rfl ⟨b1.cell rfl, b1.cell rfl, b1.cell rfl, b1.cell rfl, trivial⟩ ?_)
  have he28 := hS.ext e1
  refine xl_op (P := Tryz.prog) (some 7) rfl rfl (ox_callE (al := [(.agg #[(.slice s.lA s.lex.length s.lc), (.slice s.nA s.names.length s.nc), (.int .i64 s.start), (.slice s.pA s.prods.length s.pc)])]) pf_30 rfl (ret_mono (lend_calls s w1 he28) ?_))
  rintro _ w2 ⟨s_1, rfl, hL1, e2⟩
  have he2 := e2.size
  have hhL19 := LendR.spr hL1 (he28.ext e2)
  have hg_s_1 := LendR.g hL1
  have x1 : Ext w w2 := (Ext.trans e1 e2)
  refine xl_op (P := Tryz.prog) (some 8) rfl rfl (ox_callE (al := [(.agg #[(.slice s_1.lA s_1.lex.length s_1.lc), (.slice s_1.nA s_1.names.length s_1.nc), (.int .i64 s_1.start), (.slice s_1.pA s_1.prods.length s_1.pc)])]) pf_34 rfl (ret_mono (build_calls2 s_1 w2 hhL19 (TabIs.ext hT x1)) ?_))
  rintro _ w3 ⟨p1, k1, a1, rfl, e3, hb1⟩
  have he3 := e3.size
  refine xl_op (P := Tryz.prog) (some 5) rfl rfl (ox_move (v := (.tuple #[(.pointer p1), (.agg #[(.int .i64 k1), (.int .i64 a1), (.string (⟨#[]⟩))])])) rfl ?_)
  refine xl_op (P := Tryz.prog) (some 9) rfl rfl (ox_extract (vs := #[(.pointer p1), (.agg #[(.int .i64 k1), (.int .i64 a1), (.string (⟨#[]⟩))])]) (v := (.pointer p1)) rfl rfl ?_)
  refine xl_op (P := Tryz.prog) (some 10) rfl rfl (ox_extract (vs := #[(.pointer p1), (.agg #[(.int .i64 k1), (.int .i64 a1), (.string (⟨#[]⟩))])]) (v := (.agg #[(.int .i64 k1), (.int .i64 a1), (.string (⟨#[]⟩))])) rfl rfl ?_)
  refine xl_op (P := Tryz.prog) (some 4) rfl rfl (ox_alloc tZ_75 ?_)
  intro w4 e4 z2 b2
  replace b2 : Blk w4 w3.heap.size #[(.int .i64 0), (.int .i64 0), (.string (⟨#[]⟩))] 75 := b2
  refine xl_op (P := Tryz.prog) (some 3) rfl rfl (ox_assign (v := (.pointer p1)) rfl ?_)
  refine xl_op (P := Tryz.prog) none rfl rfl (ox_store (n := 3) (vs := [(.int .i64 k1), (.int .i64 a1), (.string (⟨#[]⟩))]) tS_75 rfl (v := (.agg #[(.int .i64 k1), (.int .i64 a1), (.string (⟨#[]⟩))])) rfl rfl rfl rfl b2 (Nat.le_of_ble_eq_true rfl) ?_)
  intro w5 e5 z3 b3
  replace b3 : Blk w5 w3.heap.size #[(.int .i64 k1), (.int .i64 a1), (.string (⟨#[]⟩))] 75 := blk_full b3 rfl
  refine xl_nil ?_
  refine xc_seq ?_
  refine xc_seq ?_
  refine xc_region ?_
  refine xl_op (P := Tryz.prog) (some 11) rfl rfl (ox_fieldAddr (b := w3.heap.size) (o := 0) tF_75_0 rfl ?_)
  refine xl_op (P := Tryz.prog) (some 12) rfl rfl (ox_load (v := (.int .i64 k1)) tA_73 rfl (b3.cell rfl) ?_)
  refine xl_op (P := Tryz.prog) (some 13) rfl rfl (ox_neq (k := .i64) (a := k1) (b := 0) rfl rfl ?_)
  refine xl_nil ?_
  refine xc_if (p := (k1 : Int) ≠ 0) rfl (fun h1 => ?_) (fun h1 => ?_)
  · skip
    obtain ⟨_, rfl, hn9⟩ := hb1.resolve_right (fun ⟨h9, _⟩ => by omega)
    refine xc_seq ?_
    refine xc_region ?_
    refine xl_op (P := Tryz.prog) (some 2) rfl rfl (ox_assign (v := (.pointer none)) rfl ?_)
    refine xl_nil ?_
    refine xc_ret ?_
    change leaves _ _ _ _ _ _ _
    refine leaves_nil (n := 15) (rs := [.tmp 2]) (vs := [(.pointer none)]) rfl ⟨⟨by decide, rfl⟩, trivial⟩ ?_
    have x2 : Ext w w5 := (Ext.chg1 (Ext.trans (Ext.trans x1 e3) e4) e5 (by omega))
    exact ⟨x2, .inl ⟨by rw [← hg_s_1]; exact hn9, rfl⟩⟩
  · skip
    obtain ⟨rfl, rfl, bax_1, stx_1, rfl, hgx_1, hXx_1⟩ := hb1.resolve_left (fun h9 => by omega)
    refine xc_skip ?_
    refine xc_seq ?_
    refine xc_region ?_
    refine xl_op (P := Tryz.prog) (some 14) rfl rfl (ox_move (v := (.pointer (some ⟨bax_1, 0, none⟩))) rfl ?_)
    refine xl_op (P := Tryz.prog) (some 2) rfl rfl (ox_assign (v := (.pointer (some ⟨bax_1, 0, none⟩))) rfl ?_)
    refine xl_nil ?_
    refine xc_ret ?_
    change leaves _ _ _ _ _ _ _
    refine leaves_nil (n := 15) (rs := [.tmp 2]) (vs := [(.pointer (some ⟨bax_1, 0, none⟩))]) rfl ⟨⟨by decide, rfl⟩, trivial⟩ ?_
    have x3 : Ext w w5 := (Ext.chg1 (Ext.trans (Ext.trans x1 e3) e4) e5 (by omega))
    have x4 : Ext w3 w5 := (Ext.chg1 e4 e5 (by omega))
    exact ⟨x3, .inr ⟨s_1, bax_1, stx_1, hg_s_1, by rw [← hg_s_1]; exact hgx_1, ⟨_, by omega, (AutX.ext hXx_1 x4)⟩, rfl⟩⟩
theorem known_calls  (w : World) (hT : TabP w) :
    Calls Tryz.prog 10 #[] w (Ret (fun v w' => v = .bool true ∧ Ext w w')) := by
  obtain ⟨⟨hf1, hf2, hf3, hf4⟩, hf5⟩ := small_facts
  refine calls_xc (n := 53) (f := fun s_ => [].getD s_ undef) Tryz.func10 rfl rfl (by simp) (fun s_ => by simp) ?_
  refine xc_seq ?_
  refine xc_region ?_
  refine xl_op (P := Tryz.prog) (some 0) rfl rfl (ox_assign (v := (.bool false)) rfl ?_)
  refine xl_nil ?_
  refine xc_seq ?_
  refine xc_region ?_
  refine xl_op (P := Tryz.prog) (some 5) rfl rfl (ox_callE (al := []) pf_44 rfl (ret_mono (small_calls w) ?_))
  rintro _ w1 ⟨sm, rfl, hSm, hsg, e1⟩
  have he1 := e1.size
  refine xl_op (P := Tryz.prog) (some 6) rfl rfl (ox_callE (al := [(.agg #[(.slice sm.lA sm.lex.length sm.lc), (.slice sm.nA sm.names.length sm.nc), (.int .i64 sm.start), (.slice sm.pA sm.prods.length sm.pc)])]) pf_34 rfl (ret_mono (build_calls2 sm w1 hSm (TabIs.ext hT e1)) ?_))
  rintro _ w2 ⟨p1, k1, a1, rfl, e2, hb1⟩
  have he2 := e2.size
  have hk9 : ¬ k1 ≠ 0 := fun h9 => by
    obtain ⟨_, _, h8⟩ := hb1.resolve_right (fun ⟨h7, _⟩ => h9 h7)
    rw [hsg, small_builtG] at h8; cases h8
  refine xl_op (P := Tryz.prog) (some 4) rfl rfl (ox_move (v := (.tuple #[(.pointer p1), (.agg #[(.int .i64 k1), (.int .i64 a1), (.string (⟨#[]⟩))])])) rfl ?_)
  obtain ⟨rfl, rfl, bax_1, stx_1, rfl, hgx_1, hXx_1⟩ := hb1.resolve_left (fun h9 => by omega)
  have hst9 : stx_1 = smallA := by have h9 := hgx_1; rw [hsg, small_builtG] at h9; exact (Option.some.inj h9).symm
  subst hst9
  refine xl_op (P := Tryz.prog) (some 7) rfl rfl (ox_extract (vs := #[(.pointer (some ⟨bax_1, 0, none⟩)), (.agg #[(.int .i64 0), (.int .i64 0), (.string (⟨#[]⟩))])]) (v := (.pointer (some ⟨bax_1, 0, none⟩))) rfl rfl ?_)
  refine xl_op (P := Tryz.prog) (some 8) rfl rfl (ox_extract (vs := #[(.pointer (some ⟨bax_1, 0, none⟩)), (.agg #[(.int .i64 0), (.int .i64 0), (.string (⟨#[]⟩))])]) (v := (.agg #[(.int .i64 0), (.int .i64 0), (.string (⟨#[]⟩))])) rfl rfl ?_)
  refine xl_op (P := Tryz.prog) (some 2) rfl rfl (ox_alloc tZ_75 ?_)
  intro w3 e3 z1 b1
  replace b1 : Blk w3 w2.heap.size #[(.int .i64 0), (.int .i64 0), (.string (⟨#[]⟩))] 75 := b1
  refine xl_op (P := Tryz.prog) (some 1) rfl rfl (ox_assign (v := (.pointer (some ⟨bax_1, 0, none⟩))) rfl ?_)
  refine xl_op (P := Tryz.prog) none rfl rfl (ox_store (n := 3) (vs := [(.int .i64 0), (.int .i64 0), (.string (⟨#[]⟩))]) tS_75 rfl (v := (.agg #[(.int .i64 0), (.int .i64 0), (.string (⟨#[]⟩))])) rfl rfl rfl rfl b1 (Nat.le_of_ble_eq_true rfl) ?_)
  intro w4 e4 z2 b2
  replace b2 : Blk w4 w2.heap.size #[(.int .i64 0), (.int .i64 0), (.string (⟨#[]⟩))] 75 := blk_full b2 rfl
  refine xl_nil ?_
  refine xc_seq ?_
  refine xc_seq ?_
  refine xc_region ?_
  refine xl_op (P := Tryz.prog) (some 9) rfl rfl (ox_loadN (vs := [(.int .i64 0), (.int .i64 0), (.string (⟨#[]⟩))]) tA_75 tS_75 rfl rfl ⟨b2.cell rfl, b2.cell rfl, b2.cell rfl, trivial⟩ ?_)
  refine xl_op (P := Tryz.prog) (some 10) rfl rfl (ox_mkStruct (ps := []) (cs := #[(.int .i64 0), (.int .i64 0), (.string (⟨#[]⟩))]) tZ_75 tP_75 rfl (by kernel_rfl) ?_)
  refine xl_op (P := Tryz.prog) (some 11) rfl rfl (ox_neqF (xs := [(.int .i64 0), (.int .i64 0), (.string (⟨#[]⟩))]) (ys := [(.int .i64 0), (.int .i64 0), (.string (⟨#[]⟩))]) (p := ((0 : Int) = 0 ∧ (0 : Int) = 0 ∧ (⟨#[]⟩ : ByteArray) = (⟨#[]⟩))) fS_75 rfl rfl rfl rfl (by simp) ?_)
  refine xl_op (P := Tryz.prog) (some 12) rfl rfl (ox_move (v := (.bool (!decide (((0 : Int) = 0 ∧ (0 : Int) = 0 ∧ (⟨#[]⟩ : ByteArray) = (⟨#[]⟩)))))) rfl ?_)
  refine xl_opg (P := Tryz.prog) (some 13) (j := 3) (b := false) rfl rfl (congrArg some (by simp : (!decide (((0 : Int) = 0 ∧ (0 : Int) = 0 ∧ (⟨#[]⟩ : ByteArray) = (⟨#[]⟩)))) = false)) (ox_move (v := (.pointer (some ⟨bax_1, 0, none⟩))) rfl ?_)
  refine xl_opg (P := Tryz.prog) (some 14) (j := 3) (b := false) rfl rfl (congrArg some (by simp : (!decide (((0 : Int) = 0 ∧ (0 : Int) = 0 ∧ (⟨#[]⟩ : ByteArray) = (⟨#[]⟩)))) = false)) (ox_eqlNil (p := (some ⟨bax_1, 0, none⟩ : Option Addr)) (q := none) tU_28 rfl rfl (.inr rfl) ?_)
  refine xl_op (P := Tryz.prog) (some 15) rfl rfl (ox_pick_f (v := (.bool (decide ((some ⟨bax_1, 0, none⟩ : Option Addr) = none)))) (congrArg Value.bool (by simp : (!decide (((0 : Int) = 0 ∧ (0 : Int) = 0 ∧ (⟨#[]⟩ : ByteArray) = (⟨#[]⟩)))) = false)) rfl ?_)
  refine xl_op (P := Tryz.prog) (some 16) rfl rfl (ox_move (v := (.bool (decide ((some ⟨bax_1, 0, none⟩ : Option Addr) = none)))) rfl ?_)
  refine xl_opg (P := Tryz.prog) (some 17) (j := 7) (b := false) rfl rfl (congrArg some (decide_eq_false (by simp))) (ox_move (v := (.pointer (some ⟨bax_1, 0, none⟩))) rfl ?_)
  refine xl_opg (P := Tryz.prog) (some 18) (j := 7) (b := false) rfl rfl (congrArg some (decide_eq_false (by simp))) (ox_callE (al := [(.pointer (some ⟨bax_1, 0, none⟩))]) pf_31 rfl (ret_mono (all_calls bax_1 w4) ?_))
  rintro _ w5 ⟨b3, rfl, hb2, _, e5⟩
  have he5 := e5.size
  have hhb29 := hb2.lt
  refine xl_opg (P := Tryz.prog) (some 19) (j := 7) (b := false) rfl rfl (congrArg some (decide_eq_false (by simp))) (ox_eqlFnil tU_68 rfl rfl ?_)
  refine xl_op (P := Tryz.prog) (some 20) rfl rfl (ox_pick_f (v := (.bool false)) (congrArg Value.bool (decide_eq_false (by simp))) rfl ?_)
  refine xl_nil ?_
  refine xc_cond_f rfl ?_
  refine xc_skip ?_
  refine xc_seq ?_
  refine xc_region ?_
  refine xl_op (P := Tryz.prog) (some 21) rfl rfl (ox_move (v := (.pointer (some ⟨bax_1, 0, none⟩))) rfl ?_)
  refine xl_op (P := Tryz.prog) (some 22) rfl rfl (ox_mkStruct (ps := [(0, (.int .i64 3)), (1, (.int .i64 1))]) (cs := #[(.int .i64 3), (.int .i64 1)]) tZ_32 tP_32 rfl (by kernel_rfl) ?_)
  refine xl_op (P := Tryz.prog) (some 23) rfl rfl (ox_mkSlice (ps := [(0, (.agg #[(.int .i64 3), (.int .i64 1)]))]) (zs := #[(.int .i64 0), (.int .i64 0)]) (cs := #[(.int .i64 3), (.int .i64 1)]) tE_33 rfl (by decide) (by kernel_rfl) (by kernel_rfl) ?_)
  intro w6 e6 z3 b4
  replace b4 : Blk w6 w5.heap.size #[(.int .i64 3), (.int .i64 1)] 32 := b4
  have x1 : Ext w2 w6 := (Ext.trans (Ext.trans (Ext.chg1 e3 e4 (by omega)) e5) e6)
  refine xl_op (P := Tryz.prog) (some 24) rfl rfl (ox_callE (al := [(.pointer (some ⟨bax_1, 0, none⟩)), (.slice (some ⟨w5.heap.size, 0, none⟩) 1 1)]) pf_13 rfl (ret_mono (autx_run (AutX.ext hXx_1 x1) ([(⟨3, 1⟩ : Sym)]) ((some ⟨w5.heap.size, 0, none⟩)) 1 (RowA.blk b4 rfl) (by decide)) ?_))
  rintro _ w7 ⟨rfl, e7⟩
  have he7 := e7.size
  refine xl_op (P := Tryz.prog) (some 3) rfl rfl (ox_assign (v := (.int .i64 (runS smallA 0 ([(⟨3, 1⟩ : Sym)])))) rfl ?_)
  refine xl_nil ?_
  refine xc_seq ?_
  refine xc_region ?_
  refine xl_op (P := Tryz.prog) (some 25) rfl rfl (ox_move (v := (.pointer (some ⟨bax_1, 0, none⟩))) rfl ?_)
  refine xl_op (P := Tryz.prog) (some 26) rfl rfl (ox_callE (al := [(.pointer (some ⟨bax_1, 0, none⟩))]) pf_23 rfl (ret_mono (autx_len (AutX.ext (AutX.ext hXx_1 x1) e7)) ?_))
  rintro _ w8 ⟨rfl, e8⟩
  have he8 := e8.size
  refine xl_op (P := Tryz.prog) (some 27) rfl rfl (ox_gtr (k := .i64) (a := ((smallA.length : Nat))) (b := 5) rfl rfl ?_)
  refine xl_op (P := Tryz.prog) (some 28) rfl rfl (ox_move (v := (.bool (decide ((5 : Int) < ((smallA.length : Nat)))))) rfl ?_)
  refine xl_opg (P := Tryz.prog) (some 29) (j := 3) (b := true) rfl rfl (congrArg some (decide_eq_true (by omega))) (ox_move (v := (.int .i64 (runS smallA 0 ([(⟨3, 1⟩ : Sym)])))) rfl ?_)
  refine xl_opg (P := Tryz.prog) (some 30) (j := 3) (b := true) rfl rfl (congrArg some (decide_eq_true (by omega))) (ox_gtr (k := .i64) (a := (runS smallA 0 ([(⟨3, 1⟩ : Sym)]))) (b := 0) rfl rfl ?_)
  refine xl_op (P := Tryz.prog) (some 31) rfl rfl (ox_pick_t (v := (.bool (decide ((0 : Int) < (runS smallA 0 ([(⟨3, 1⟩ : Sym)])))))) (congrArg Value.bool (decide_eq_true (by omega))) rfl ?_)
  refine xl_op (P := Tryz.prog) (some 32) rfl rfl (ox_move (v := (.bool (decide ((0 : Int) < (runS smallA 0 ([(⟨3, 1⟩ : Sym)])))))) rfl ?_)
  refine xl_opg (P := Tryz.prog) (some 33) (j := 7) (b := true) rfl rfl (congrArg some (decide_eq_true (by omega))) (ox_move (v := (.pointer (some ⟨bax_1, 0, none⟩))) rfl ?_)
  refine xl_opg (P := Tryz.prog) (some 34) (j := 7) (b := true) rfl rfl (congrArg some (decide_eq_true (by omega))) (ox_mkStruct (ps := [(0, (.int .i64 1)), (1, (.int .i64 3))]) (cs := #[(.int .i64 1), (.int .i64 3)]) tZ_32 tP_32 rfl (by kernel_rfl) ?_)
  refine xl_opg (P := Tryz.prog) (some 35) (j := 7) (b := true) rfl rfl (congrArg some (decide_eq_true (by omega))) (ox_mkSlice (ps := [(0, (.agg #[(.int .i64 1), (.int .i64 3)]))]) (zs := #[(.int .i64 0), (.int .i64 0)]) (cs := #[(.int .i64 1), (.int .i64 3)]) tE_33 rfl (by decide) (by kernel_rfl) (by kernel_rfl) ?_)
  intro w9 e9 z4 b5
  replace b5 : Blk w9 w8.heap.size #[(.int .i64 1), (.int .i64 3)] 32 := b5
  have x2 : Ext w7 w9 := (Ext.trans e8 e9)
  refine xl_opg (P := Tryz.prog) (some 36) (j := 7) (b := true) rfl rfl (congrArg some (decide_eq_true (by omega))) (ox_callE (al := [(.pointer (some ⟨bax_1, 0, none⟩)), (.slice (some ⟨w8.heap.size, 0, none⟩) 1 1)]) pf_13 rfl (ret_mono (autx_run (AutX.ext (AutX.ext (AutX.ext hXx_1 x1) e7) x2) ([(⟨1, 3⟩ : Sym)]) ((some ⟨w8.heap.size, 0, none⟩)) 1 (RowA.blk b5 rfl) (by decide)) ?_))
  rintro _ w10 ⟨rfl, e10⟩
  have he10 := e10.size
  refine xl_opg (P := Tryz.prog) (some 37) (j := 7) (b := true) rfl rfl (congrArg some (decide_eq_true (by omega))) (ox_eql (k := .i64) (a := (runS smallA 0 ([(⟨1, 3⟩ : Sym)]))) (b := (-1)) rfl rfl ?_)
  refine xl_op (P := Tryz.prog) (some 38) rfl rfl (ox_pick_t (v := (.bool (decide ((runS smallA 0 ([(⟨1, 3⟩ : Sym)]) : Int) = (-1))))) (congrArg Value.bool (decide_eq_true (by omega))) rfl ?_)
  refine xl_op (P := Tryz.prog) (some 39) rfl rfl (ox_move (v := (.bool (decide ((runS smallA 0 ([(⟨1, 3⟩ : Sym)]) : Int) = (-1))))) rfl ?_)
  refine xl_opg (P := Tryz.prog) (some 40) (j := 14) (b := true) rfl rfl (congrArg some (decide_eq_true (by omega))) (ox_move (v := (.pointer (some ⟨bax_1, 0, none⟩))) rfl ?_)
  have q1 := (AutX.ext (AutX.ext (AutX.ext (AutX.ext hXx_1 x1) e7) x2) e10)
  refine xl_opg (P := Tryz.prog) (some 41) (j := 14) (b := true) rfl rfl (congrArg some (decide_eq_true (by omega))) (ox_callE (al := [(.pointer (some ⟨bax_1, 0, none⟩)), (.int .i64 0)]) pf_25 rfl (ret_mono (autx_kern q1 0) ?_))
  rintro _ w11 ⟨A1, c1, rfl, hn1, e11⟩
  have he11 := e11.size
  refine xl_opg (P := Tryz.prog) (some 42) (j := 14) (b := true) rfl rfl (congrArg some (decide_eq_true (by omega))) (ox_mkStruct (ps := [(0, (.int .i64 (-1)))]) (cs := #[(.int .i64 (-1)), (.int .i64 0)]) tZ_42 tP_42 rfl (by kernel_rfl) ?_)
  refine xl_opg (P := Tryz.prog) (some 43) (j := 14) (b := true) rfl rfl (congrArg some (decide_eq_true (by omega))) (ox_mkSlice (ps := [(0, (.agg #[(.int .i64 (-1)), (.int .i64 0)]))]) (zs := #[(.int .i64 0), (.int .i64 0)]) (cs := #[(.int .i64 (-1)), (.int .i64 0)]) tE_39 rfl (by decide) (by kernel_rfl) (by kernel_rfl) ?_)
  intro w12 e12 z5 b6
  replace b6 : Blk w12 w11.heap.size #[(.int .i64 (-1)), (.int .i64 0)] 42 := b6
  refine xl_opg (P := Tryz.prog) (some 44) (j := 14) (b := true) rfl rfl (congrArg some (decide_eq_true (by omega))) (ox_callE (al := [(.slice A1 ((kernS smallA 0).length) c1), (.slice (some ⟨w11.heap.size, 0, none⟩) 1 1)]) pf_26 rfl (ret_mono (sameItems_calls (kernS smallA 0) ([(⟨-1, 0⟩ : Itm)]) A1 ((some ⟨w11.heap.size, 0, none⟩)) c1 1 w12 (Own.rowO (hn1.1.ext e12)) (RowA.blk b6 rfl) (by rw [hf4]; decide)) ?_))
  rintro _ w13 ⟨rfl, e13⟩
  have he13 := e13.size
  refine xl_op (P := Tryz.prog) (some 45) rfl rfl (ox_pick_t (v := (.bool (decide (kernS smallA 0 = [(⟨-1, 0⟩ : Itm)])))) (congrArg Value.bool (decide_eq_true (by omega))) rfl ?_)
  refine xl_op (P := Tryz.prog) (some 46) rfl rfl (ox_move (v := (.bool (decide (kernS smallA 0 = [(⟨-1, 0⟩ : Itm)])))) rfl ?_)
  refine xl_opg (P := Tryz.prog) (some 47) (j := 21) (b := true) rfl rfl (congrArg some (decide_eq_true hf4)) (ox_move (v := (.pointer (some ⟨bax_1, 0, none⟩))) rfl ?_)
  refine xl_opg (P := Tryz.prog) (some 48) (j := 21) (b := true) rfl rfl (congrArg some (decide_eq_true hf4)) (ox_move (v := (.int .i64 (runS smallA 0 ([(⟨3, 1⟩ : Sym)])))) rfl ?_)
  have x3 : Ext w10 w13 := (Ext.trans (Ext.trans e11 e12) e13)
  refine xl_opg (P := Tryz.prog) (some 49) (j := 21) (b := true) rfl rfl (congrArg some (decide_eq_true hf4)) (ox_callE (al := [(.pointer (some ⟨bax_1, 0, none⟩)), (.int .i64 (runS smallA 0 ([(⟨3, 1⟩ : Sym)])))]) pf_24 rfl (ret_mono (autx_path (AutX.ext q1 x3) (runS smallA 0 ([(⟨3, 1⟩ : Sym)]))) ?_))
  rintro _ w14 ⟨A2, c2, rfl, hn2, e14⟩
  have he14 := e14.size
  refine xl_opg (P := Tryz.prog) (some 50) (j := 21) (b := true) rfl rfl (congrArg some (decide_eq_true hf4)) (ox_len (A := A2) (n := ((pathS smallA (runS smallA 0 ([(⟨3, 1⟩ : Sym)]))).length)) (cp := c2) rfl tU_33 rfl ?_)
  refine xl_opg (P := Tryz.prog) (some 51) (j := 21) (b := true) rfl rfl (congrArg some (decide_eq_true hf4)) (ox_eql (k := .i64) (a := ((((pathS smallA (runS smallA 0 ([(⟨3, 1⟩ : Sym)]))).length : Nat) : Int))) (b := 1) rfl rfl ?_)
  refine xl_op (P := Tryz.prog) (some 52) rfl rfl (ox_pick_t (v := (.bool (decide (((((pathS smallA (runS smallA 0 ([(⟨3, 1⟩ : Sym)]))).length : Nat) : Int) : Int) = 1)))) (congrArg Value.bool (decide_eq_true hf4)) rfl ?_)
  refine xl_op (P := Tryz.prog) (some 0) rfl rfl (ox_assign (v := (.bool (decide (((((pathS smallA (runS smallA 0 ([(⟨3, 1⟩ : Sym)]))).length : Nat) : Int) : Int) = 1)))) rfl ?_)
  refine xl_nil ?_
  refine xc_ret ?_
  change leaves _ _ _ _ _ _ _
  refine leaves_nil (n := 53) (rs := [.tmp 0]) (vs := [(.bool (decide (((((pathS smallA (runS smallA 0 ([(⟨3, 1⟩ : Sym)]))).length : Nat) : Int) : Int) = 1)))]) rfl ⟨⟨by decide, rfl⟩, trivial⟩ ?_
  have x4 : Ext w w14 := (Ext.trans (Ext.trans (Ext.trans (Ext.trans (Ext.trans (Ext.trans (Ext.trans (Ext.trans (Ext.trans (Ext.trans (Ext.chg1 (Ext.trans (Ext.trans e1 e2) e3) e4 (by omega)) e5) e6) e7) e8) e9) e10) e11) e12) e13) e14)
  exact ⟨congrArg Value.bool (decide_eq_true (by omega)), x4⟩
end Go.Proofs.YtnnmdkglgnlenaaGreatDoor
set_option linter.unusedVariables false
set_option linter.unusedSimpArgs false
set_option maxRecDepth 100000
set_option maxHeartbeats 4000000
namespace Go.Proofs.YtnnmdkglgnlenaaGreatDoor
open Go Go.RowKit Go.Vx
theorem built_calls2 (s : SP) (w : World) (hS : SpR w s) (hT : TabP w) : Calls Tryz.prog 9 #[(.agg #[(.slice s.lA s.lex.length s.lc), (.slice s.nA s.names.length s.nc), (.int .i64 s.start), (.slice s.pA s.prods.length s.pc)])] w (Ret fun v w' => ∃ p, v = .pointer p ∧ Ext w w' ∧ ((builtG s.g = none ∧ p = none) ∨ ∃ s1 ba st, p = some ⟨ba, 0, none⟩ ∧ s1.g = s.g ∧ builtG s.g = some st ∧ ∃ B, w.heap.size ≤ B ∧ AutX B w' s1 ba st)) := by
  refine ret_mono (built_calls s w hS hT) ?_
  rintro v w' ⟨he, ⟨h1, rfl⟩ | ⟨s1, ba, st, h1, h2, h3, rfl⟩⟩
  · exact ⟨_, rfl, he, .inl ⟨h1, rfl⟩⟩
  · exact ⟨_, rfl, he, .inr ⟨s1, ba, st, rfl, h1, h2, h3⟩⟩
theorem pf_10 : plainF Tryz.prog 10 = true := by kernel_rfl
theorem pf_9 : plainF Tryz.prog 9 = true := by kernel_rfl
end Go.Proofs.YtnnmdkglgnlenaaGreatDoor
set_option linter.unusedVariables false
set_option linter.unusedSimpArgs false
set_option maxRecDepth 100000
set_option maxHeartbeats 4000000
namespace Go.Proofs.YtnnmdkglgnlenaaGreatDoor
open Go Go.RowKit Go.Vx
theorem spec_calls (s : SP) (ba : Nat) (sA : Option Addr) (sc n : Nat) (w : World) (hb : Blk w ba #[(.slice s.lA s.lex.length s.lc), (.slice s.nA s.names.length s.nc), (.int .i64 s.start), (.slice s.pA s.prods.length s.pc), (.slice sA n sc)] 97) (hS : SpR w s) :
    Calls Tryz.prog 33 #[(.pointer (some ⟨ba, 0, none⟩))] w (Ret (fun v w' => ∃ s3, v = (.agg #[(.slice s3.lA s3.lex.length s3.lc), (.slice s3.nA s3.names.length s3.nc), (.int .i64 s3.start), (.slice s3.pA s3.prods.length s3.pc)]) ∧ OwnS w.heap.size w' s s3 ∧ Ext w w')) := by
  refine calls_xc (n := 8) (f := fun s_ => [(.pointer (some ⟨ba, 0, none⟩))].getD s_ undef) Tryz.func33 rfl rfl (by simp) (fun s_ => by simp) ?_
  refine xc_seq ?_
  refine xc_region ?_
  refine xl_op (P := Tryz.prog) (some 2) rfl rfl (ox_alloc tZ_26 ?_)
  intro w1 e1 z1 b1
  replace b1 : Blk w1 w.heap.size #[(.slice none 0 0), (.slice none 0 0), (.int .i64 0), (.slice none 0 0)] 26 := b1
  refine xl_nil ?_
  refine xc_seq ?_
  refine xc_region ?_
  refine xl_op (P := Tryz.prog) (some 3) rfl rfl (ox_move (v := (.pointer (some ⟨ba, 0, none⟩))) rfl ?_)
  refine xl_op (P := Tryz.prog) (some 4) rfl rfl (ox_nilCheck (p := ⟨ba, 0, none⟩) rfl ?_)
  refine xl_op (P := Tryz.prog) (some 5) rfl rfl (ox_fieldAddr (b := ba) (o := 0) tF_97_0 rfl ?_)
  refine xl_op (P := Tryz.prog) (some 6) rfl rfl (ox_loadN (vs := [(.slice s.lA s.lex.length s.lc), (.slice s.nA s.names.length s.nc), (.int .i64 s.start), (.slice s.pA s.prods.length s.pc)]) tA_26 tS_26 rfl rfl ⟨(hb.ext e1).cell rfl, (hb.ext e1).cell rfl, (hb.ext e1).cell rfl, (hb.ext e1).cell rfl, trivial⟩ ?_)
  refine xl_op (P := Tryz.prog) (some 7) rfl rfl (ox_callE (al := [(.agg #[(.slice s.lA s.lex.length s.lc), (.slice s.nA s.names.length s.nc), (.int .i64 s.start), (.slice s.pA s.prods.length s.pc)])]) pf_61 rfl (ret_mono (own_calls s w1 (hS.ext e1)) ?_))
  rintro _ w2 ⟨s3, rfl, hO3, e2⟩
  have he2 := e2.size
  refine xl_op (P := Tryz.prog) none rfl rfl (ox_store (n := 4) (vs := [(.slice s3.lA s3.lex.length s3.lc), (.slice s3.nA s3.names.length s3.nc), (.int .i64 s3.start), (.slice s3.pA s3.prods.length s3.pc)]) tS_26 rfl (v := (.agg #[(.slice s3.lA s3.lex.length s3.lc), (.slice s3.nA s3.names.length s3.nc), (.int .i64 s3.start), (.slice s3.pA s3.prods.length s3.pc)])) rfl rfl rfl rfl (b1.ext e2) (Nat.le_of_ble_eq_true rfl) ?_)
  intro w3 e3 z2 b2
  replace b2 : Blk w3 w.heap.size #[(.slice s3.lA s3.lex.length s3.lc), (.slice s3.nA s3.names.length s3.nc), (.int .i64 s3.start), (.slice s3.pA s3.prods.length s3.pc)] 26 := blk_full b2 rfl
  refine xl_nil ?_
  refine xc_ret ?_
  change leaves _ _ _ _ _ _ _
  refine leaves_nil (n := 8) (rs := [.cell 2 26]) (vs := [(.agg #[(.slice s3.lA s3.lex.length s3.lc), (.slice s3.nA s3.names.length s3.nc), (.int .i64 s3.start), (.slice s3.pA s3.prods.length s3.pc)])]) rfl ⟨⟨by decide, w.heap.size, 0, 4, [(.slice s3.lA s3.lex.length s3.lc), (.slice s3.nA s3.names.length s3.nc), (.int .i64 s3.start), (.slice s3.pA s3.prods.length s3.pc)], rfl, tA_26, tS_26, rfl, ⟨b2.cell rfl, b2.cell rfl, b2.cell rfl, b2.cell rfl, trivial⟩, rfl⟩, trivial⟩ ?_
  have y1 : Chg1 w.heap.size w2 w3 := (Chg.trans (Chg.refl (fun x => x = w.heap.size) w2) e3 (fun b hb hl => hb))
  have x1 : Ext w w3 := (Ext.chg1 (Ext.trans e1 e2) e3 (by omega))
  exact ⟨s3, rfl, OwnS.mono (by omega) (hO3.keepC y1 (fun b hb1 hb2 hb3 => by first | exact hb3 | omega)), x1⟩
theorem autx_spec {B : Nat} {w : World} {s0 : SP} {ba : Nat} {st : List ASt} (h : AutX B w s0 ba st) : Calls Tryz.prog 33 #[.pointer (some ⟨ba, 0, none⟩)] w (Ret fun v w' => ∃ s2 s3, v = (.agg #[(.slice s3.lA s3.lex.length s3.lc), (.slice s3.nA s3.names.length s3.nc), (.int .i64 s3.start), (.slice s3.pA s3.prods.length s3.pc)]) ∧ OwnS B w s0 s2 ∧ OwnS w.heap.size w' s2 s3 ∧ Ext w w') := by
  obtain ⟨⟨s, sA, sc, sts, rfl, hO, hA⟩, ha⟩ := h
  refine ret_mono (spec_calls s ba sA sc sts.length w hA.ba (OwnS.spr (w0 := w) hO)) ?_
  rintro v w' ⟨s3, rfl, h1, h2⟩
  exact ⟨s, s3, rfl, hO, h1, h2⟩
theorem Aut.two {g : GD} {st : List ASt} (h : Aut g st) : 2 ≤ st.length := by
  obtain ⟨x, hx, hk, _⟩ := h.first
  have h1 : (⟨-1, 0⟩ : Itm) ∈ x.items := by rw [h.shape 0 x hx, hk]; exact closG_kmem (by simp)
  have h2 : behindG g (⟨-1, 0⟩ : Itm) = some ⟨3, g.start⟩ := rfl
  have h3 := (go_stands h hx ⟨3, g.start⟩).2 ⟨_, h1, h2⟩
  obtain ⟨j, y, _, h4, h5, _⟩ := go_to h hx h3
  have := (List.getElem?_eq_some_iff.1 h4).1
  omega
def BlL (L l : List LR) (i : Nat) : Prop := ∀ (j : Nat) (y : LR), l[j]? = some y → (∃ x, L[j]? = some x ∧ y.trivia = x.trivia) ∧ (j < i → y.e.A = none ∧ y.e.list = [] ∧ y.e.c = 0)
theorem BlL.zero (L : List LR) : BlL L L 0 := fun j y hy => ⟨⟨y, hy, rfl⟩, fun h => by omega⟩
theorem BlL.put {L l : List LR} {i : Nat} {y z : LR} (h : BlL L l i) (hy : l[i]? = some y) (ht : z.trivia = y.trivia) (he : z.e.A = none ∧ z.e.list = [] ∧ z.e.c = 0) : BlL L (l.set i z) (i + 1) := fun j u hu => by
  have hi := (List.getElem?_eq_some_iff.1 hy).1
  by_cases hji : j = i
  · subst hji
    rw [List.getElem?_set_self hi] at hu; cases hu
    obtain ⟨⟨x, h1, h2⟩, _⟩ := h j y hy
    exact ⟨⟨x, h1, ht.trans h2⟩, fun _ => he⟩
  · rw [List.getElem?_set_ne (fun hh => hji hh.symm)] at hu
    exact ⟨(h j u hu).1, fun h9 => (h j u hu).2 (by omega)⟩
theorem BlL.name {L l : List LR} {i k : Nat} {y z : LR} (h : BlL L l i) (hy : l[k]? = some y) (ht : z.trivia = y.trivia) (he : z.e = y.e) : BlL L (l.set k z) i := fun j u hu => by
  have hi := (List.getElem?_eq_some_iff.1 hy).1
  by_cases hji : j = k
  · subst hji
    rw [List.getElem?_set_self hi] at hu; cases hu
    obtain ⟨⟨x, h1, h2⟩, h3⟩ := h j y hy
    exact ⟨⟨x, h1, ht.trans h2⟩, fun h9 => by rw [he]; exact h3 h9⟩
  · rw [List.getElem?_set_ne (fun hh => hji hh.symm)] at hu
    exact h j u hu
def SP.blind (s : SP) (l : List LR) (n : List ByteArray) : SP := { s with lex := l.take s.lex.length, names := n.take s.names.length }
section
variable {B : Nat} {K : Nat → Prop} {w w' : World}
theorem PdF.keepO {l L : List PD} {e sz n i : Nat} {v : Value} {xs : List Value} (h : PdF B w l L i) (c : Chg (fun b => v.ownBlock = some b) w w') (ho : Vx.Own w e sz v n xs) (he : e ≠ 32) : PdF B w' l L i :=
  ⟨fun j x y hj hx hy => by
    have q := h.all j x y hj hx hy
    refine ⟨q.left, q.right, q.rc, q.own.keep c fun k h1 h2 => ?_, q.low⟩
    obtain ⟨cs, h3⟩ := own_type q.own h1
    obtain ⟨cs', h4⟩ := own_type ho h2
    rw [h3] at h4; cases h4; exact he rfl, h.apart⟩
theorem PdF.keepB {l L : List PD} {i b t : Nat} {cs : Array Value} (h : PdF B w l L i) (c : Chg1 b w w') (hb : Blk w b cs t) (ht : t ≠ 32) : PdF B w' l L i :=
  ⟨fun j x y hj hx hy => by
    have q := h.all j x y hj hx hy
    refine ⟨q.left, q.right, q.rc, q.own.keep c fun k h1 h2 => ?_, q.low⟩
    obtain ⟨cs, h3⟩ := own_type q.own h1
    have h2 : k = b := h2
    subst h2
    unfold Blk at hb
    rw [h3] at hb; cases hb; exact ht rfl, h.apart⟩
theorem blind_spr {w1 : World} {s s1 : SP} {lx : List LR} {nm : List ByteArray} (hL : LendR B w1 s s1) (hS1 : SpR w1 s1) (hfr : ∀ p ∈ s.prods, few 16 p.right.length p.rc) (hlx : Vx.Own w 66 8 (.slice s1.lA (s.lex.length + 1) (s.lex.length + 1)) (s.lex.length + 1) (lx.flatMap LR.cs)) (hB : BlL (s1.lex ++ [lrMark]) lx s1.lex.length)
    (hnm : Vx.Own w 9 1 (.slice s1.nA (s.names.length + 1) (s.names.length + 1)) (s.names.length + 1) (nm.flatMap strs)) (hP : Vx.Own w 37 2 (.slice s1.pA (s.prods.length + 1) (s.prods.length + 1)) (s.prods.length + 1) ((s1.prods ++ [pdMark]).flatMap PD.cs)) (hR : PdF B w s.prods s1.prods s.prods.length) :
    SpR w (s1.blind lx nm) ∧ (s1.blind lx nm).g = s.g ∧ (s1.blind lx nm).lex.length = s1.lex.length ∧ (s1.blind lx nm).names.length = s1.names.length := by
  have hll : lx.length = s.lex.length + 1 := by have := hlx.len; rw [fm_len LR.len] at this; omega
  have hnl : nm.length = s.names.length + 1 := by have := hnm.len; rw [fm_len strs_len] at this; omega
  have e1 : (s1.blind lx nm).lex.length = s1.lex.length := by
    show (lx.take s1.lex.length).length = _
    rw [List.length_take, hL.lexL]; omega
  have e2 : (s1.blind lx nm).names.length = s1.names.length := by
    show (nm.take s1.names.length).length = _
    rw [List.length_take, hL.names]; omega
  have hget : ∀ (j : Nat) (y : LR), (lx.take s1.lex.length)[j]? = some y → j < s1.lex.length ∧ lx[j]? = some y := fun j y hy => by
    rw [List.getElem?_take] at hy
    split at hy
    · rename_i h; exact ⟨h, hy⟩
    · cases hy
  refine ⟨⟨?_, ?_, ?_, fun y hy => ?_, fun y hy => ?_, ?_, ?_, ?_, fun y hy => ?_⟩, ?_, e1, e2⟩
  · have h9 := (Own.takeD (m := s1.lex.length) LR.len (by decide) hlx (by rw [hL.lexL]; omega)).rowO
    exact h9
  · have h9 := (Own.takeD (m := s1.names.length) strs_len (by decide) hnm (by rw [hL.names]; omega)).rowO
    exact h9
  · have h9 := (Own.takeD PD.len (by decide) hP (Nat.le_succ _)).rowO
    rw [← hL.prodsL, List.take_left] at h9; exact h9
  · obtain ⟨j, hj⟩ := List.mem_iff_getElem?.1 hy
    obtain ⟨hj1, hj2⟩ := hget j y hj
    obtain ⟨h1, h2, h3⟩ := (hB j y hj2).2 hj1
    revert h1 h2 h3
    generalize y.e = e
    cases e with
    | mk k a b m n A c l =>
      intro h1 h2 h3
      simp only [EX.A, EX.list, EX.c] at h1 h2 h3
      subst h1 h2 h3
      simp only [ExR]
      exact ⟨rfl, ⟨Nat.le_refl _, by simp⟩, trivial⟩
  · obtain ⟨j, x, hx, hy⟩ := pair_mem hL.prodsL hy
    have hj := (List.getElem?_eq_some_iff.1 hx).1
    have hp := hR.all j x y hj hx hy
    have h9 := (Own.takeD Sym.len (by decide) hp.own (Nat.le_succ _)).rowO
    rw [List.take_left] at h9
    rw [hp.right]; exact h9
  · show few 88 (s1.blind lx nm).lex.length s1.lc
    rw [e1]; exact hS1.fl
  · show few 16 (s1.blind lx nm).names.length s1.nc
    rw [e2]; exact hS1.fn
  · exact hS1.fp
  · exact hS1.fr y hy
  · unfold SP.g
    rw [e2, hL.names, show (s1.blind lx nm).start = s1.start from rfl, hL.start, show (s1.blind lx nm).prods = s1.prods from rfl, map_pair (f := PD.d) hL.prodsL fun j x y hx hy => by
      have hr := hL.prodsR.all j x y (List.getElem?_eq_some_iff.1 hx).1 hx hy
      unfold PD.d; rw [hr.left, hr.right]]
    rw [map_pair (f := LR.trivia) (e1.trans hL.lexL) fun j x y hx hy => by
      obtain ⟨hj1, hj2⟩ := hget j y hy
      obtain ⟨⟨u, h1, h2⟩, _⟩ := hB j y hj2
      rw [List.getElem?_append_left hj1] at h1
      rw [h2, (hL.lexR j x u hx h1).2.1]]
end
theorem built_at {s t : SP} {w : World} (hS : SpR w t) (hT : TabP w) (h1 : t.lA = s.lA) (h2 : t.lex.length = s.lex.length) (h3 : t.lc = s.lc) (h4 : t.nA = s.nA) (h5 : t.names.length = s.names.length) (h6 : t.nc = s.nc) (h7 : t.start = s.start) (h8 : t.pA = s.pA) (h9 : t.prods.length = s.prods.length) (ha : t.pc = s.pc) {g : GD} (hg : t.g = g) :
    Calls Tryz.prog 9 #[(.agg #[(.slice s.lA s.lex.length s.lc), (.slice s.nA s.names.length s.nc), (.int .i64 s.start), (.slice s.pA s.prods.length s.pc)])] w (Ret fun v w' => ∃ p, v = .pointer p ∧ Ext w w' ∧ ((builtG g = none ∧ p = none) ∨ ∃ s1 ba st, p = some ⟨ba, 0, none⟩ ∧ s1.g = g ∧ builtG g = some st ∧ ∃ B, w.heap.size ≤ B ∧ AutX B w' s1 ba st)) := by
  have := built_calls2 t w hS hT
  rw [h1, h2, h3, h4, h5, h6, h7, h8, h9, ha, hg] at this
  exact this
end Go.Proofs.YtnnmdkglgnlenaaGreatDoor
set_option linter.unusedVariables false
set_option linter.unusedSimpArgs false
set_option maxRecDepth 100000
set_option maxHeartbeats 4000000
namespace Go.Proofs.YtnnmdkglgnlenaaGreatDoor
open Go Go.RowKit Go.Vx
def allR (st : List ASt) (n : Nat) (as_ : Array Value) (W : World) : Prop := ∃ A c, as_ = #[.int .i64 (n : Nat), .slice A (kernS st (n : Nat)).length c] ∧ Vx.Own W 42 2 (.slice A (kernS st (n : Nat)).length c) (kernS st (n : Nat)).length ((kernS st (n : Nat)).flatMap Itm.cs)
theorem range_prefix {i n : Nat} (h : i ≤ n) : List.range i <+: List.range n := by
  have := List.take_prefix i (List.range n)
  rw [List.take_range, Nat.min_eq_left h] at this; exact this
theorem allR_size {st : List ASt} (x : Nat) (as_ : Array Value) (W : World) (h : allR st x as_ W) : as_.size = 2 := by
  obtain ⟨A, c, rfl, _⟩ := h; rfl
theorem allR_cells {st : List ASt} (x : Nat) (as_ : Array Value) (W : World) (h : allR st x as_ W) (b : Nat) (hb : asOwn as_ b) : ∃ cs e fz, W.heap[b]? = some (.cells cs e fz) := by
  obtain ⟨A, c, rfl, ho⟩ := h
  obtain ⟨v, hv, hob⟩ := hb
  simp only [List.mem_cons, List.not_mem_nil, or_false] at hv
  rcases hv with rfl | rfl
  · simp [Value.ownBlock] at hob
  · obtain ⟨cs, h9⟩ := own_type ho hob
    exact ⟨cs, _, _, h9⟩
theorem allF_calls (l B Bx bx ba : Nat) (w0 : World) (s1 : SP) (st : List ASt) (X : Nat → Prop) (J Jx : List Nat → (Nat → Prop) → World → Prop) (w : World) (hb : Blk w bx #[.pointer (some ⟨ba, 0, none⟩)] 28) (hA : AutX Bx w0 s1 ba st) (hw0 : w0.heap.size ≤ B) (hc0 : Chg (fun b => B ≤ b) w0 w) (hbig : st.length ≤ 100000000000) (hXb : X bx ∨ bx < B) (hX : ∀ b, X b → B ≤ b ∧ b < w.heap.size) (hBw : B ≤ w.heap.size) (hJ : Stab B J) (hy : IterYE Tryz.prog l (allR st) B (List.range st.length) J Jx) (h0 : J [] X w) :
    Calls Tryz.prog 54 #[(.func (.yield l) #[] #[]), (.pointer (some ⟨bx, 0, none⟩))] w (Ret (IterR B (List.range st.length) J Jx)) := by
  refine calls_xc (n := 20) (f := fun s_ => [(.func (.yield l) #[] #[]), (.pointer (some ⟨bx, 0, none⟩))].getD s_ undef) Tryz.func54 rfl rfl (by simp) (fun s_ => by simp) ?_
  refine xc_seq ?_
  obtain ⟨⟨s2, sA, sc, sts, hd, hO, hR⟩, haut⟩ := hA.keepC hc0 (fun b _ h2 (h3 : B ≤ b) => by omega)
  have hlen : sts.length = st.length := by rw [← hd, List.length_map]
  have hba := hR.ba
  rw [hlen] at hba
  refine xc_region ?_
  refine xl_op (P := Tryz.prog) (some 4) rfl rfl (ox_load (v := (.pointer (some ⟨ba, 0, none⟩))) tA_28 rfl (hb.cell rfl) ?_)
  refine xl_op (P := Tryz.prog) (some 5) rfl rfl (ox_nilCheck (p := ⟨ba, 0, none⟩) rfl ?_)
  refine xl_op (P := Tryz.prog) (some 6) rfl rfl (ox_fieldAddr (b := ba) (o := 0) tF_97_1 rfl ?_)
  refine xl_op (P := Tryz.prog) (some 7) rfl rfl (ox_load (v := (.slice sA st.length sc)) tA_95 rfl (hba.cell rfl) ?_)
  refine xl_op (P := Tryz.prog) (some 8) rfl rfl (ox_len (A := sA) (n := st.length) (cp := sc) rfl tU_95 rfl ?_)
  refine xl_op (P := Tryz.prog) (some 9) rfl rfl (ox_move (v := (.int .i64 0)) rfl ?_)
  refine xl_nil ?_
  refine xc_block ?_
  refine xc_loopN (fun m f W => ∃ (i : Nat), m = st.length - i ∧ i ≤ st.length ∧ f 0 = (.func (.yield l) #[] #[]) ∧ f 1 = (.pointer (some ⟨bx, 0, none⟩)) ∧ f 8 = (.int .i64 (((st.length : Nat) : Int))) ∧ f 9 = (.int .i64 ((i : Nat))) ∧ Blk W bx #[.pointer (some ⟨ba, 0, none⟩)] 28 ∧ (∀ b, X b → B ≤ b ∧ b < W.heap.size) ∧ J (List.range i) X W ∧ Chg (fun b => B ≤ b) w0 W ∧ B ≤ W.heap.size) (st.length) ?_ ?_
  · exact ⟨0, by omega, by omega, rfl, rfl, rfl, (by first | exact rfl | exact (congrArg (Value.int .i64) (by omega))), hb, hX, h0, hc0, hBw⟩
  · rintro m f1 w1 ⟨i, hm, hi, g0_f1, g1_f1, g8_f1, g9_f1, b_f1, x_f1, i_f1, c_f1, s_f1⟩
    refine xc_seq ?_
    refine xc_region ?_
    refine xl_op (P := Tryz.prog) (some 10) rfl rfl (ox_lss (k := .i64) (a := ((i : Nat))) (b := (((st.length : Nat) : Int))) g9_f1 g8_f1 ?_)
    refine xl_nil ?_
    refine xc_seq ?_
    refine xc_if (p := ((i : Nat) : Int) < (((st.length : Nat) : Int))) rfl (fun h1 => ?_) (fun h1 => ?_)
    · skip
      have hil : i < st.length := by omega
      have hpf : (List.range i ++ [i]) <+: List.range st.length := by rw [← List.range_succ]; exact range_prefix (by omega)
      refine xc_skip ?_
      refine xc_seq ?_
      refine xc_block ?_
      refine xc_seq ?_
      refine xc_region ?_
      refine xl_op (P := Tryz.prog) (some 11) rfl rfl (ox_move (v := (.int .i64 ((i : Nat)))) g9_f1 ?_)
      refine xl_op (P := Tryz.prog) (some 3) rfl rfl (ox_assign (v := (.int .i64 ((i : Nat)))) rfl ?_)
      refine xl_nil ?_
      refine xc_seq ?_
      refine xc_region ?_
      refine xl_op (P := Tryz.prog) (some 12) rfl rfl (ox_move (v := (.func (.yield l) #[] #[])) g0_f1 ?_)
      refine xl_op (P := Tryz.prog) (some 13) rfl rfl (ox_move (v := (.int .i64 ((i : Nat)))) rfl ?_)
      refine xl_op (P := Tryz.prog) (some 14) rfl rfl (ox_load (v := (.pointer (some ⟨ba, 0, none⟩))) tA_28 g1_f1 (b_f1.cell rfl) ?_)
      refine xl_op (P := Tryz.prog) (some 15) rfl rfl (ox_move (v := (.int .i64 ((i : Nat)))) rfl ?_)
      refine xl_op (P := Tryz.prog) (some 16) rfl rfl (ox_callE (al := [(.pointer (some ⟨ba, 0, none⟩)), (.int .i64 ((i : Nat)))]) pf_25 rfl (ret_mono (autx_kern (hA.keepC c_f1 (fun b _ h2 (h3 : B ≤ b) => by omega)) (i : Nat)) ?_))
      rintro _ w2 ⟨A1, c1, rfl, hn1, e1⟩
      have he1 := e1.size
      refine xl_op (P := Tryz.prog) (some 17) rfl rfl (ox_callY (al := [(.int .i64 ((i : Nat))), (.slice A1 ((kernS st (i : Nat)).length) c1)]) rfl rfl (yield_b (hy _ i _ X _ hpf (fun b hb => by have := x_f1 b hb; omega) ⟨A1, c1, rfl, hn1.1⟩ (fun b hb => by obtain ⟨v, hv, hob⟩ := hb; simp only [List.mem_cons, List.not_mem_nil, or_false] at hv; rcases hv with rfl | rfl; simp [Value.ownBlock] at hob; have h8 := hn1.2 b hob; exact ⟨fun h9 => by have := x_f1 b h9; omega, by omega⟩) (hJ _ _ _ _ _ x_f1 i_f1 (Ext.to e1) (fun b hb => .inl hb))) ?_))
      intro β1 w3 hj1 hx1
      refine xl_op (P := Tryz.prog) (some 18) rfl rfl (ox_not (b := β1) rfl ?_)
      refine xl_nil ?_
      refine xc_cond (b := (!β1)) rfl (fun h2 => ?_) (fun h2 => ?_)
      · skip
        have h2' := h2
        try simp only [Bool.or_eq_true, Bool.and_eq_true, decide_eq_true_eq, Bool.or_eq_false_iff, Bool.and_eq_false_iff, decide_eq_false_iff_not, Bool.not_eq_true', Bool.not_eq_false'] at h2'
        obtain ⟨hjx, hsz⟩ := hx1 (by simpa using h2)
        refine xc_ret ?_
        change leaves _ _ _ _ _ _ _
        refine leaves_nil (n := 20) (rs := []) (vs := []) rfl trivial ?_
        exact ⟨X, fun b hb => by have := x_f1 b hb; have := hsz.size; omega, .inr ⟨_, hpf, hjx⟩⟩
      · skip
        have h2' := h2
        try simp only [Bool.or_eq_true, Bool.and_eq_true, decide_eq_true_eq, Bool.or_eq_false_iff, Bool.and_eq_false_iff, decide_eq_false_iff_not, Bool.not_eq_true', Bool.not_eq_false'] at h2'
        obtain ⟨hji, hmi⟩ := hj1 (by simpa using h2)
        refine xc_skip ?_
        refine xc_region ?_
        refine xl_op (P := Tryz.prog) (some 19) rfl rfl (ox_add64 (a := ((i : Nat))) (b := 1) g9_f1 rfl (by omega) ?_)
        refine xl_op (P := Tryz.prog) (some 9) rfl rfl (ox_move (v := (.int .i64 ((i : Nat) + 1))) rfl ?_)
        refine xl_nil ?_
        exact ⟨rfl, st.length - (i + 1), by omega, i + 1, by omega, by omega, g0_f1, g1_f1, g8_f1, (by first | exact rfl | exact (congrArg (Value.int .i64) (by omega))), ((b_f1.ext e1).keep hmi (fun h => hXb.elim h.1 (by have := h.2; omega))), (fun b hb => by have := x_f1 b hb; have := hmi.size; omega), (by rw [List.range_succ]; exact hji), (Chg.trans (Chg.ext c_f1 e1) hmi (fun b hb _ => hb.2)), (by have := hmi.size; omega)⟩
    · skip
      refine xc_exit ?_
      change leaves _ _ _ _ _ _ _
      refine leaves_nil (n := 20) (rs := []) (vs := []) rfl trivial ?_
      exact ⟨X, x_f1, .inl (by rw [show i = st.length by omega] at i_f1; exact i_f1)⟩
theorem all_iter {B Bx bx ba : Nat} {w0 w : World} {s1 : SP} {st : List ASt} {X : Nat → Prop} (hb : Blk w bx #[.pointer (some ⟨ba, 0, none⟩)] 28) (hA : AutX Bx w0 s1 ba st) (hw0 : w0.heap.size ≤ B) (hc0 : Chg (fun b => B ≤ b) w0 w) (hXb : X bx ∨ bx < B)
    (hX : ∀ b, X b → B ≤ b ∧ b < w.heap.size) (hB : B ≤ w.heap.size) : IterE Tryz.prog 54 #[.pointer (some ⟨bx, 0, none⟩)] (allR st) B X (List.range st.length) w :=
  IterE.mk (lb := [.pointer (some ⟨bx, 0, none⟩)]) fun l J Jx W hm hJ hJx hy h0 => allF_calls l B Bx bx ba w0 s1 st X J Jx W (hb.keep hm fun h => hXb.elim h.1 (by have := h.2; omega)) hA hw0 (Chg.trans hc0 hm fun b hb _ => hb.2) hA.aut.big hXb
    (fun b hb => ⟨(hX b hb).1, by have := (hX b hb).2; have := hm.size; omega⟩) (by have := hm.size; omega) hJ hy h0
end Go.Proofs.YtnnmdkglgnlenaaGreatDoor
