/-
  Part 17 of the proof: texts Tz Ud Ue Uf Ug Uh. No conditions.
-/
import Derived.Test.YtnnmdkglgnlenaaGreatDoorRows
import Derived.Test.YtnnmdkglgnlenaaGreatDoorPdc
import Derived.Test.YtnnmdkglgnlenaaGreatDoorPdi
import Derived.Test.YtnnmdkglgnlenaaGreatDoorPdp
set_option linter.unusedVariables false
set_option linter.unusedSimpArgs false
set_option maxRecDepth 100000
set_option maxHeartbeats 4000000
namespace Go.Proofs.YtnnmdkglgnlenaaGreatDoor
open Go Go.RowKit Go.Vx
theorem RowA.blk {w : World} {b t : Nat} {cs : Array Value} {vs : List Value} (h : Blk w b cs t) (hv : cs.toList = vs) : RowA w (some ⟨b, 0, none⟩) vs := by
  subst hv
  exact ⟨fun _ => rfl, h.all⟩
theorem small_builtG : builtG smallG = some smallA := by
  unfold builtG
  rw [if_pos (by rw [small_check]), small_built]
theorem build_calls2 (s : SP) (w : World) (hS : SpR w s) (hT : TabP w) : Calls Tryz.prog 34 #[(.agg #[(.slice s.lA s.lex.length s.lc), (.slice s.nA s.names.length s.nc), (.int .i64 s.start), (.slice s.pA s.prods.length s.pc)])] w (Ret fun v w' => ∃ (p : Option Addr) (k a : Int), v = .tuple #[.pointer p, .agg #[.int .i64 k, .int .i64 a, .string ⟨#[]⟩]] ∧ Ext w w' ∧ ((k ≠ 0 ∧ p = none ∧ builtG s.g = none) ∨ (k = 0 ∧ a = 0 ∧ ∃ ba st, p = some ⟨ba, 0, none⟩ ∧ builtG s.g = some st ∧ AutX w.heap.size w' s ba st))) := by
  refine ret_mono (build_calls s w hS hT) ?_
  rintro v w' ⟨he, ⟨h1, rfl⟩ | ⟨h1, h2, rfl⟩ | ⟨h1, s2, ba, sA, sc, sts, h2, h3, h4, rfl⟩⟩
  · exact ⟨_, _, _, rfl, he, .inl ⟨h1, rfl, by unfold builtG; rw [if_neg h1]⟩⟩
  · exact ⟨_, _, _, rfl, he, .inl ⟨by decide, rfl, by unfold builtG; rw [if_pos h1, h2]⟩⟩
  · exact ⟨_, _, _, rfl, he, .inr ⟨rfl, rfl, ba, _, rfl, by unfold builtG; rw [if_pos h1, h2], ⟨⟨s2, sA, sc, sts, rfl, h3, h4⟩, Aut.of h1 h2⟩⟩⟩
theorem fS_75 : flatS Tryz.prog 75 [.int .i64, .int .i64, .str] = true := by kernel_rfl
theorem pf_13 : plainF Tryz.prog 13 = true := by kernel_rfl
theorem pf_23 : plainF Tryz.prog 23 = true := by kernel_rfl
theorem pf_24 : plainF Tryz.prog 24 = true := by kernel_rfl
theorem pf_25 : plainF Tryz.prog 25 = true := by kernel_rfl
theorem pf_26 : plainF Tryz.prog 26 = true := by kernel_rfl
theorem pf_30 : plainF Tryz.prog 30 = true := by kernel_rfl
theorem pf_31 : plainF Tryz.prog 31 = true := by kernel_rfl
theorem pf_34 : plainF Tryz.prog 34 = true := by kernel_rfl
theorem pf_44 : plainF Tryz.prog 44 = true := by kernel_rfl
theorem tU_28 : Tryz.prog.underlying 28 = some (.pointer 97) := by kernel_rfl
theorem tU_68 : Tryz.prog.underlying 68 = some (.func #[106] #[] false) := by kernel_rfl
theorem all_calls (ba : Nat) (w : World)  :
    Calls Tryz.prog 31 #[(.pointer (some ⟨ba, 0, none⟩))] w (Ret (fun v w' => ∃ b, v = .func (.func 54) #[] #[.pointer (some ⟨b, 0, none⟩)] ∧ Blk w' b #[.pointer (some ⟨ba, 0, none⟩)] 28 ∧ b = w.heap.size ∧ Ext w w')) := by
  refine calls_xc (n := 4) (f := fun s_ => [(.pointer (some ⟨ba, 0, none⟩))].getD s_ undef) Tryz.func31 rfl rfl (by simp) (fun s_ => by simp) ?_
  refine xc_seq ?_
  refine xc_region ?_
  refine xl_op (P := Tryz.prog) (some 1) rfl rfl (ox_box (v := (.pointer (some ⟨ba, 0, none⟩))) rfl ?_)
  intro w1 e1 z1 b1
  replace b1 : Blk w1 w.heap.size #[(.pointer (some ⟨ba, 0, none⟩))] 28 := b1
  refine xl_op (P := Tryz.prog) (some 2) rfl rfl (ox_assign (v := .nilFunc) rfl ?_)
  refine xl_nil ?_
  refine xc_seq ?_
  refine xc_region ?_
  refine xl_op (P := Tryz.prog) (some 3) rfl rfl (ox_mkFunc (cs := [(.pointer (some ⟨w.heap.size, 0, none⟩))]) rfl ?_)
  refine xl_op (P := Tryz.prog) (some 2) rfl rfl (ox_assign (v := (.func (.func 54) #[] #[(.pointer (some ⟨w.heap.size, 0, none⟩))])) rfl ?_)
  refine xl_nil ?_
  refine xc_ret ?_
  change leaves _ _ _ _ _ _ _
  refine leaves_nil (n := 4) (rs := [.tmp 2]) (vs := [(.func (.func 54) #[] #[(.pointer (some ⟨w.heap.size, 0, none⟩))])]) rfl ⟨⟨by decide, rfl⟩, trivial⟩ ?_
  exact ⟨_, rfl, b1, rfl, e1⟩
theorem built_calls (s : SP) (w : World) (hS : SpR w s) (hT : TabP w) :
    Calls Tryz.prog 9 #[(.agg #[(.slice s.lA s.lex.length s.lc), (.slice s.nA s.names.length s.nc), (.int .i64 s.start), (.slice s.pA s.prods.length s.pc)])] w (Ret (fun v w' => Ext w w' ∧ ((builtG s.g = none ∧ v = .pointer none) ∨ ∃ s1 ba st, s1.g = s.g ∧ builtG s.g = some st ∧ (∃ B, w.heap.size ≤ B ∧ AutX B w' s1 ba st) ∧ v = .pointer (some ⟨ba, 0, none⟩)))) := by
  refine calls_xc (n := 15) (f := fun s_ => [(.agg #[(.slice s.lA s.lex.length s.lc), (.slice s.nA s.names.length s.nc), (.int .i64 s.start), (.slice s.pA s.prods.length s.pc)])].getD s_ undef) Tryz.func9 rfl rfl (by simp) (fun s_ => by simp) ?_
  refine xc_seq ?_
  refine xc_region ?_
  refine xl_op (P := Tryz.prog) (some 1) rfl rfl (ox_box (v := (.agg #[(.slice s.lA s.lex.length s.lc), (.slice s.nA s.names.length s.nc), (.int .i64 s.start), (.slice s.pA s.prods.length s.pc)])) rfl ?_)
  intro w1 e1 z1 b1
  replace b1 : Blk w1 w.heap.size #[(.slice s.lA s.lex.length s.lc), (.slice s.nA s.names.length s.nc), (.int .i64 s.start), (.slice s.pA s.prods.length s.pc)] 26 := b1
  refine xl_op (P := Tryz.prog) (some 2) rfl rfl (ox_assign (v := (.pointer none)) rfl ?_)
  refine xl_nil ?_
  refine xc_seq ?_
  refine xc_region ?_
  refine xl_op (P := Tryz.prog) (some 6) rfl rfl (ox_loadN (vs := [(.slice s.lA s.lex.length s.lc), (.slice s.nA s.names.length s.nc), (.int .i64 s.start), (.slice s.pA s.prods.length s.pc)]) tA_26 tS_26 rfl rfl ⟨b1.cell rfl, b1.cell rfl, b1.cell rfl, b1.cell rfl, trivial⟩ ?_)
  have he28 := hS.ext e1
  refine xl_op (P := Tryz.prog) (some 7) rfl rfl (ox_callE (al := [(.agg #[(.slice s.lA s.lex.length s.lc), (.slice s.nA s.names.length s.nc), (.int .i64 s.start), (.slice s.pA s.prods.length s.pc)])]) pf_30 rfl (ret_mono (lend_calls s w1 he28) ?_))
  rintro _ w2 ⟨s_1, rfl, hL1, e2⟩
  have he2 := e2.size
  have hhL19 := LendR.spr hL1 (he28.ext e2)
  have hg_s_1 := LendR.g hL1
  have x1 : Ext w w2 := (Ext.trans e1 e2)
  refine xl_op (P := Tryz.prog) (some 8) rfl rfl (ox_callE (al := [(.agg #[(.slice s_1.lA s_1.lex.length s_1.lc), (.slice s_1.nA s_1.names.length s_1.nc), (.int .i64 s_1.start), (.slice s_1.pA s_1.prods.length s_1.pc)])]) pf_34 rfl (ret_mono (build_calls2 s_1 w2 hhL19 (TabIs.ext hT x1)) ?_))
  rintro _ w3 ⟨p1, k1, a1, rfl, e3, hb1⟩
  have he3 := e3.size
  refine xl_op (P := Tryz.prog) (some 5) rfl rfl (ox_move (v := (.tuple #[(.pointer p1), (.agg #[(.int .i64 k1), (.int .i64 a1), (.string (⟨#[]⟩))])])) rfl ?_)
  refine xl_op (P := Tryz.prog) (some 9) rfl rfl (ox_extract (vs := #[(.pointer p1), (.agg #[(.int .i64 k1), (.int .i64 a1), (.string (⟨#[]⟩))])]) (v := (.pointer p1)) rfl rfl ?_)
  refine xl_op (P := Tryz.prog) (some 10) rfl rfl (ox_extract (vs := #[(.pointer p1), (.agg #[(.int .i64 k1), (.int .i64 a1), (.string (⟨#[]⟩))])]) (v := (.agg #[(.int .i64 k1), (.int .i64 a1), (.string (⟨#[]⟩))])) rfl rfl ?_)
  refine xl_op (P := Tryz.prog) (some 4) rfl rfl (ox_alloc tZ_75 ?_)
  intro w4 e4 z2 b2
  replace b2 : Blk w4 w3.heap.size #[(.int .i64 0), (.int .i64 0), (.string (⟨#[]⟩))] 75 := b2
  refine xl_op (P := Tryz.prog) (some 3) rfl rfl (ox_assign (v := (.pointer p1)) rfl ?_)
  refine xl_op (P := Tryz.prog) none rfl rfl (ox_store (n := 3) (vs := [(.int .i64 k1), (.int .i64 a1), (.string (⟨#[]⟩))]) tS_75 rfl (v := (.agg #[(.int .i64 k1), (.int .i64 a1), (.string (⟨#[]⟩))])) rfl rfl rfl rfl b2 (Nat.le_of_ble_eq_true rfl) ?_)
  intro w5 e5 z3 b3
  replace b3 : Blk w5 w3.heap.size #[(.int .i64 k1), (.int .i64 a1), (.string (⟨#[]⟩))] 75 := blk_full b3 rfl
  refine xl_nil ?_
  refine xc_seq ?_
  refine xc_seq ?_
  refine xc_region ?_
  refine xl_op (P := Tryz.prog) (some 11) rfl rfl (ox_fieldAddr (b := w3.heap.size) (o := 0) tF_75_0 rfl ?_)
  refine xl_op (P := Tryz.prog) (some 12) rfl rfl (ox_load (v := (.int .i64 k1)) tA_73 rfl (b3.cell rfl) ?_)
  refine xl_op (P := Tryz.prog) (some 13) rfl rfl (ox_neq (k := .i64) (a := k1) (b := 0) rfl rfl ?_)
  refine xl_nil ?_
  refine xc_if (p := (k1 : Int) ≠ 0) rfl (fun h1 => ?_) (fun h1 => ?_)
  · skip
    obtain ⟨_, rfl, hn9⟩ := hb1.resolve_right (fun ⟨h9, _⟩ => by omega)
    refine xc_seq ?_
    refine xc_region ?_
    refine xl_op (P := Tryz.prog) (some 2) rfl rfl (ox_assign (v := (.pointer none)) rfl ?_)
    refine xl_nil ?_
    refine xc_ret ?_
    change leaves _ _ _ _ _ _ _
    refine leaves_nil (n := 15) (rs := [.tmp 2]) (vs := [(.pointer none)]) rfl ⟨⟨by decide, rfl⟩, trivial⟩ ?_
    have x2 : Ext w w5 := (Ext.chg1 (Ext.trans (Ext.trans x1 e3) e4) e5 (by omega))
    exact ⟨x2, .inl ⟨by rw [← hg_s_1]; exact hn9, rfl⟩⟩
  · skip
    obtain ⟨rfl, rfl, bax_1, stx_1, rfl, hgx_1, hXx_1⟩ := hb1.resolve_left (fun h9 => by omega)
    refine xc_skip ?_
    refine xc_seq ?_
    refine xc_region ?_
    refine xl_op (P := Tryz.prog) (some 14) rfl rfl (ox_move (v := (.pointer (some ⟨bax_1, 0, none⟩))) rfl ?_)
    refine xl_op (P := Tryz.prog) (some 2) rfl rfl (ox_assign (v := (.pointer (some ⟨bax_1, 0, none⟩))) rfl ?_)
    refine xl_nil ?_
    refine xc_ret ?_
    change leaves _ _ _ _ _ _ _
    refine leaves_nil (n := 15) (rs := [.tmp 2]) (vs := [(.pointer (some ⟨bax_1, 0, none⟩))]) rfl ⟨⟨by decide, rfl⟩, trivial⟩ ?_
    have x3 : Ext w w5 := (Ext.chg1 (Ext.trans (Ext.trans x1 e3) e4) e5 (by omega))
    have x4 : Ext w3 w5 := (Ext.chg1 e4 e5 (by omega))
    exact ⟨x3, .inr ⟨s_1, bax_1, stx_1, hg_s_1, by rw [← hg_s_1]; exact hgx_1, ⟨_, by omega, (AutX.ext hXx_1 x4)⟩, rfl⟩⟩
theorem known_calls  (w : World) (hT : TabP w) :
    Calls Tryz.prog 10 #[] w (Ret (fun v w' => v = .bool true ∧ Ext w w')) := by
  obtain ⟨⟨hf1, hf2, hf3, hf4⟩, hf5⟩ := small_facts
  refine calls_xc (n := 53) (f := fun s_ => [].getD s_ undef) Tryz.func10 rfl rfl (by simp) (fun s_ => by simp) ?_
  refine xc_seq ?_
  refine xc_region ?_
  refine xl_op (P := Tryz.prog) (some 0) rfl rfl (ox_assign (v := (.bool false)) rfl ?_)
  refine xl_nil ?_
  refine xc_seq ?_
  refine xc_region ?_
  refine xl_op (P := Tryz.prog) (some 5) rfl rfl (ox_callE (al := []) pf_44 rfl (ret_mono (small_calls w) ?_))
  rintro _ w1 ⟨sm, rfl, hSm, hsg, e1⟩
  have he1 := e1.size
  refine xl_op (P := Tryz.prog) (some 6) rfl rfl (ox_callE (al := [(.agg #[(.slice sm.lA sm.lex.length sm.lc), (.slice sm.nA sm.names.length sm.nc), (.int .i64 sm.start), (.slice sm.pA sm.prods.length sm.pc)])]) pf_34 rfl (ret_mono (build_calls2 sm w1 hSm (TabIs.ext hT e1)) ?_))
  rintro _ w2 ⟨p1, k1, a1, rfl, e2, hb1⟩
  have he2 := e2.size
  have hk9 : ¬ k1 ≠ 0 := fun h9 => by
    obtain ⟨_, _, h8⟩ := hb1.resolve_right (fun ⟨h7, _⟩ => h9 h7)
    rw [hsg, small_builtG] at h8; cases h8
  refine xl_op (P := Tryz.prog) (some 4) rfl rfl (ox_move (v := (.tuple #[(.pointer p1), (.agg #[(.int .i64 k1), (.int .i64 a1), (.string (⟨#[]⟩))])])) rfl ?_)
  obtain ⟨rfl, rfl, bax_1, stx_1, rfl, hgx_1, hXx_1⟩ := hb1.resolve_left (fun h9 => by omega)
  have hst9 : stx_1 = smallA := by have h9 := hgx_1; rw [hsg, small_builtG] at h9; exact (Option.some.inj h9).symm
  subst hst9
  refine xl_op (P := Tryz.prog) (some 7) rfl rfl (ox_extract (vs := #[(.pointer (some ⟨bax_1, 0, none⟩)), (.agg #[(.int .i64 0), (.int .i64 0), (.string (⟨#[]⟩))])]) (v := (.pointer (some ⟨bax_1, 0, none⟩))) rfl rfl ?_)
  refine xl_op (P := Tryz.prog) (some 8) rfl rfl (ox_extract (vs := #[(.pointer (some ⟨bax_1, 0, none⟩)), (.agg #[(.int .i64 0), (.int .i64 0), (.string (⟨#[]⟩))])]) (v := (.agg #[(.int .i64 0), (.int .i64 0), (.string (⟨#[]⟩))])) rfl rfl ?_)
  refine xl_op (P := Tryz.prog) (some 2) rfl rfl (ox_alloc tZ_75 ?_)
  intro w3 e3 z1 b1
  replace b1 : Blk w3 w2.heap.size #[(.int .i64 0), (.int .i64 0), (.string (⟨#[]⟩))] 75 := b1
  refine xl_op (P := Tryz.prog) (some 1) rfl rfl (ox_assign (v := (.pointer (some ⟨bax_1, 0, none⟩))) rfl ?_)
  refine xl_op (P := Tryz.prog) none rfl rfl (ox_store (n := 3) (vs := [(.int .i64 0), (.int .i64 0), (.string (⟨#[]⟩))]) tS_75 rfl (v := (.agg #[(.int .i64 0), (.int .i64 0), (.string (⟨#[]⟩))])) rfl rfl rfl rfl b1 (Nat.le_of_ble_eq_true rfl) ?_)
  intro w4 e4 z2 b2
  replace b2 : Blk w4 w2.heap.size #[(.int .i64 0), (.int .i64 0), (.string (⟨#[]⟩))] 75 := blk_full b2 rfl
  refine xl_nil ?_
  refine xc_seq ?_
  refine xc_seq ?_
  refine xc_region ?_
  refine xl_op (P := Tryz.prog) (some 9) rfl rfl (ox_loadN (vs := [(.int .i64 0), (.int .i64 0), (.string (⟨#[]⟩))]) tA_75 tS_75 rfl rfl ⟨b2.cell rfl, b2.cell rfl, b2.cell rfl, trivial⟩ ?_)
  refine xl_op (P := Tryz.prog) (some 10) rfl rfl (ox_mkStruct (ps := []) (cs := #[(.int .i64 0), (.int .i64 0), (.string (⟨#[]⟩))]) tZ_75 tP_75 rfl (by kernel_rfl) ?_)
  refine xl_op (P := Tryz.prog) (some 11) rfl rfl (ox_neqF (xs := [(.int .i64 0), (.int .i64 0), (.string (⟨#[]⟩))]) (ys := [(.int .i64 0), (.int .i64 0), (.string (⟨#[]⟩))]) (p := ((0 : Int) = 0 ∧ (0 : Int) = 0 ∧ (⟨#[]⟩ : ByteArray) = (⟨#[]⟩))) fS_75 rfl rfl rfl rfl (by simp) ?_)
  refine xl_op (P := Tryz.prog) (some 12) rfl rfl (ox_move (v := (.bool (!decide (((0 : Int) = 0 ∧ (0 : Int) = 0 ∧ (⟨#[]⟩ : ByteArray) = (⟨#[]⟩)))))) rfl ?_)
  refine xl_opg (P := Tryz.prog) (some 13) (j := 3) (b := false) rfl rfl (congrArg some (by simp : (!decide (((0 : Int) = 0 ∧ (0 : Int) = 0 ∧ (⟨#[]⟩ : ByteArray) = (⟨#[]⟩)))) = false)) (ox_move (v := (.pointer (some ⟨bax_1, 0, none⟩))) rfl ?_)
  refine xl_opg (P := Tryz.prog) (some 14) (j := 3) (b := false) rfl rfl (congrArg some (by simp : (!decide (((0 : Int) = 0 ∧ (0 : Int) = 0 ∧ (⟨#[]⟩ : ByteArray) = (⟨#[]⟩)))) = false)) (ox_eqlNil (p := (some ⟨bax_1, 0, none⟩ : Option Addr)) (q := none) tU_28 rfl rfl (.inr rfl) ?_)
  refine xl_op (P := Tryz.prog) (some 15) rfl rfl (ox_pick_f (v := (.bool (decide ((some ⟨bax_1, 0, none⟩ : Option Addr) = none)))) (congrArg Value.bool (by simp : (!decide (((0 : Int) = 0 ∧ (0 : Int) = 0 ∧ (⟨#[]⟩ : ByteArray) = (⟨#[]⟩)))) = false)) rfl ?_)
  refine xl_op (P := Tryz.prog) (some 16) rfl rfl (ox_move (v := (.bool (decide ((some ⟨bax_1, 0, none⟩ : Option Addr) = none)))) rfl ?_)
  refine xl_opg (P := Tryz.prog) (some 17) (j := 7) (b := false) rfl rfl (congrArg some (decide_eq_false (by simp))) (ox_move (v := (.pointer (some ⟨bax_1, 0, none⟩))) rfl ?_)
  refine xl_opg (P := Tryz.prog) (some 18) (j := 7) (b := false) rfl rfl (congrArg some (decide_eq_false (by simp))) (ox_callE (al := [(.pointer (some ⟨bax_1, 0, none⟩))]) pf_31 rfl (ret_mono (all_calls bax_1 w4) ?_))
  rintro _ w5 ⟨b3, rfl, hb2, _, e5⟩
  have he5 := e5.size
  have hhb29 := hb2.lt
  refine xl_opg (P := Tryz.prog) (some 19) (j := 7) (b := false) rfl rfl (congrArg some (decide_eq_false (by simp))) (ox_eqlFnil tU_68 rfl rfl ?_)
  refine xl_op (P := Tryz.prog) (some 20) rfl rfl (ox_pick_f (v := (.bool false)) (congrArg Value.bool (decide_eq_false (by simp))) rfl ?_)
  refine xl_nil ?_
  refine xc_cond_f rfl ?_
  refine xc_skip ?_
  refine xc_seq ?_
  refine xc_region ?_
  refine xl_op (P := Tryz.prog) (some 21) rfl rfl (ox_move (v := (.pointer (some ⟨bax_1, 0, none⟩))) rfl ?_)
  refine xl_op (P := Tryz.prog) (some 22) rfl rfl (ox_mkStruct (ps := [(0, (.int .i64 3)), (1, (.int .i64 1))]) (cs := #[(.int .i64 3), (.int .i64 1)]) tZ_32 tP_32 rfl (by kernel_rfl) ?_)
  refine xl_op (P := Tryz.prog) (some 23) rfl rfl (ox_mkSlice (ps := [(0, (.agg #[(.int .i64 3), (.int .i64 1)]))]) (zs := #[(.int .i64 0), (.int .i64 0)]) (cs := #[(.int .i64 3), (.int .i64 1)]) tE_33 rfl (by decide) (by kernel_rfl) (by kernel_rfl) ?_)
  intro w6 e6 z3 b4
  replace b4 : Blk w6 w5.heap.size #[(.int .i64 3), (.int .i64 1)] 32 := b4
  have x1 : Ext w2 w6 := (Ext.trans (Ext.trans (Ext.chg1 e3 e4 (by omega)) e5) e6)
  refine xl_op (P := Tryz.prog) (some 24) rfl rfl (ox_callE (al := [(.pointer (some ⟨bax_1, 0, none⟩)), (.slice (some ⟨w5.heap.size, 0, none⟩) 1 1)]) pf_13 rfl (ret_mono (autx_run (AutX.ext hXx_1 x1) ([(⟨3, 1⟩ : Sym)]) ((some ⟨w5.heap.size, 0, none⟩)) 1 (RowA.blk b4 rfl) (by decide)) ?_))
  rintro _ w7 ⟨rfl, e7⟩
  have he7 := e7.size
  refine xl_op (P := Tryz.prog) (some 3) rfl rfl (ox_assign (v := (.int .i64 (runS smallA 0 ([(⟨3, 1⟩ : Sym)])))) rfl ?_)
  refine xl_nil ?_
  refine xc_seq ?_
  refine xc_region ?_
  refine xl_op (P := Tryz.prog) (some 25) rfl rfl (ox_move (v := (.pointer (some ⟨bax_1, 0, none⟩))) rfl ?_)
  refine xl_op (P := Tryz.prog) (some 26) rfl rfl (ox_callE (al := [(.pointer (some ⟨bax_1, 0, none⟩))]) pf_23 rfl (ret_mono (autx_len (AutX.ext (AutX.ext hXx_1 x1) e7)) ?_))
  rintro _ w8 ⟨rfl, e8⟩
  have he8 := e8.size
  refine xl_op (P := Tryz.prog) (some 27) rfl rfl (ox_gtr (k := .i64) (a := ((smallA.length : Nat))) (b := 5) rfl rfl ?_)
  refine xl_op (P := Tryz.prog) (some 28) rfl rfl (ox_move (v := (.bool (decide ((5 : Int) < ((smallA.length : Nat)))))) rfl ?_)
  refine xl_opg (P := Tryz.prog) (some 29) (j := 3) (b := true) rfl rfl (congrArg some (decide_eq_true (by omega))) (ox_move (v := (.int .i64 (runS smallA 0 ([(⟨3, 1⟩ : Sym)])))) rfl ?_)
  refine xl_opg (P := Tryz.prog) (some 30) (j := 3) (b := true) rfl rfl (congrArg some (decide_eq_true (by omega))) (ox_gtr (k := .i64) (a := (runS smallA 0 ([(⟨3, 1⟩ : Sym)]))) (b := 0) rfl rfl ?_)
  refine xl_op (P := Tryz.prog) (some 31) rfl rfl (ox_pick_t (v := (.bool (decide ((0 : Int) < (runS smallA 0 ([(⟨3, 1⟩ : Sym)])))))) (congrArg Value.bool (decide_eq_true (by omega))) rfl ?_)
  refine xl_op (P := Tryz.prog) (some 32) rfl rfl (ox_move (v := (.bool (decide ((0 : Int) < (runS smallA 0 ([(⟨3, 1⟩ : Sym)])))))) rfl ?_)
  refine xl_opg (P := Tryz.prog) (some 33) (j := 7) (b := true) rfl rfl (congrArg some (decide_eq_true (by omega))) (ox_move (v := (.pointer (some ⟨bax_1, 0, none⟩))) rfl ?_)
  refine xl_opg (P := Tryz.prog) (some 34) (j := 7) (b := true) rfl rfl (congrArg some (decide_eq_true (by omega))) (ox_mkStruct (ps := [(0, (.int .i64 1)), (1, (.int .i64 3))]) (cs := #[(.int .i64 1), (.int .i64 3)]) tZ_32 tP_32 rfl (by kernel_rfl) ?_)
  refine xl_opg (P := Tryz.prog) (some 35) (j := 7) (b := true) rfl rfl (congrArg some (decide_eq_true (by omega))) (ox_mkSlice (ps := [(0, (.agg #[(.int .i64 1), (.int .i64 3)]))]) (zs := #[(.int .i64 0), (.int .i64 0)]) (cs := #[(.int .i64 1), (.int .i64 3)]) tE_33 rfl (by decide) (by kernel_rfl) (by kernel_rfl) ?_)
  intro w9 e9 z4 b5
  replace b5 : Blk w9 w8.heap.size #[(.int .i64 1), (.int .i64 3)] 32 := b5
  have x2 : Ext w7 w9 := (Ext.trans e8 e9)
  refine xl_opg (P := Tryz.prog) (some 36) (j := 7) (b := true) rfl rfl (congrArg some (decide_eq_true (by omega))) (ox_callE (al := [(.pointer (some ⟨bax_1, 0, none⟩)), (.slice (some ⟨w8.heap.size, 0, none⟩) 1 1)]) pf_13 rfl (ret_mono (autx_run (AutX.ext (AutX.ext (AutX.ext hXx_1 x1) e7) x2) ([(⟨1, 3⟩ : Sym)]) ((some ⟨w8.heap.size, 0, none⟩)) 1 (RowA.blk b5 rfl) (by decide)) ?_))
  rintro _ w10 ⟨rfl, e10⟩
  have he10 := e10.size
  refine xl_opg (P := Tryz.prog) (some 37) (j := 7) (b := true) rfl rfl (congrArg some (decide_eq_true (by omega))) (ox_eql (k := .i64) (a := (runS smallA 0 ([(⟨1, 3⟩ : Sym)]))) (b := (-1)) rfl rfl ?_)
  refine xl_op (P := Tryz.prog) (some 38) rfl rfl (ox_pick_t (v := (.bool (decide ((runS smallA 0 ([(⟨1, 3⟩ : Sym)]) : Int) = (-1))))) (congrArg Value.bool (decide_eq_true (by omega))) rfl ?_)
  refine xl_op (P := Tryz.prog) (some 39) rfl rfl (ox_move (v := (.bool (decide ((runS smallA 0 ([(⟨1, 3⟩ : Sym)]) : Int) = (-1))))) rfl ?_)
  refine xl_opg (P := Tryz.prog) (some 40) (j := 14) (b := true) rfl rfl (congrArg some (decide_eq_true (by omega))) (ox_move (v := (.pointer (some ⟨bax_1, 0, none⟩))) rfl ?_)
  have q1 := (AutX.ext (AutX.ext (AutX.ext (AutX.ext hXx_1 x1) e7) x2) e10)
  refine xl_opg (P := Tryz.prog) (some 41) (j := 14) (b := true) rfl rfl (congrArg some (decide_eq_true (by omega))) (ox_callE (al := [(.pointer (some ⟨bax_1, 0, none⟩)), (.int .i64 0)]) pf_25 rfl (ret_mono (autx_kern q1 0) ?_))
  rintro _ w11 ⟨A1, c1, rfl, hn1, e11⟩
  have he11 := e11.size
  refine xl_opg (P := Tryz.prog) (some 42) (j := 14) (b := true) rfl rfl (congrArg some (decide_eq_true (by omega))) (ox_mkStruct (ps := [(0, (.int .i64 (-1)))]) (cs := #[(.int .i64 (-1)), (.int .i64 0)]) tZ_42 tP_42 rfl (by kernel_rfl) ?_)
  refine xl_opg (P := Tryz.prog) (some 43) (j := 14) (b := true) rfl rfl (congrArg some (decide_eq_true (by omega))) (ox_mkSlice (ps := [(0, (.agg #[(.int .i64 (-1)), (.int .i64 0)]))]) (zs := #[(.int .i64 0), (.int .i64 0)]) (cs := #[(.int .i64 (-1)), (.int .i64 0)]) tE_39 rfl (by decide) (by kernel_rfl) (by kernel_rfl) ?_)
  intro w12 e12 z5 b6
  replace b6 : Blk w12 w11.heap.size #[(.int .i64 (-1)), (.int .i64 0)] 42 := b6
  refine xl_opg (P := Tryz.prog) (some 44) (j := 14) (b := true) rfl rfl (congrArg some (decide_eq_true (by omega))) (ox_callE (al := [(.slice A1 ((kernS smallA 0).length) c1), (.slice (some ⟨w11.heap.size, 0, none⟩) 1 1)]) pf_26 rfl (ret_mono (sameItems_calls (kernS smallA 0) ([(⟨-1, 0⟩ : Itm)]) A1 ((some ⟨w11.heap.size, 0, none⟩)) c1 1 w12 (Own.rowO (hn1.1.ext e12)) (RowA.blk b6 rfl) (by rw [hf4]; decide)) ?_))
  rintro _ w13 ⟨rfl, e13⟩
  have he13 := e13.size
  refine xl_op (P := Tryz.prog) (some 45) rfl rfl (ox_pick_t (v := (.bool (decide (kernS smallA 0 = [(⟨-1, 0⟩ : Itm)])))) (congrArg Value.bool (decide_eq_true (by omega))) rfl ?_)
  refine xl_op (P := Tryz.prog) (some 46) rfl rfl (ox_move (v := (.bool (decide (kernS smallA 0 = [(⟨-1, 0⟩ : Itm)])))) rfl ?_)
  refine xl_opg (P := Tryz.prog) (some 47) (j := 21) (b := true) rfl rfl (congrArg some (decide_eq_true hf4)) (ox_move (v := (.pointer (some ⟨bax_1, 0, none⟩))) rfl ?_)
  refine xl_opg (P := Tryz.prog) (some 48) (j := 21) (b := true) rfl rfl (congrArg some (decide_eq_true hf4)) (ox_move (v := (.int .i64 (runS smallA 0 ([(⟨3, 1⟩ : Sym)])))) rfl ?_)
  have x3 : Ext w10 w13 := (Ext.trans (Ext.trans e11 e12) e13)
  refine xl_opg (P := Tryz.prog) (some 49) (j := 21) (b := true) rfl rfl (congrArg some (decide_eq_true hf4)) (ox_callE (al := [(.pointer (some ⟨bax_1, 0, none⟩)), (.int .i64 (runS smallA 0 ([(⟨3, 1⟩ : Sym)])))]) pf_24 rfl (ret_mono (autx_path (AutX.ext q1 x3) (runS smallA 0 ([(⟨3, 1⟩ : Sym)]))) ?_))
  rintro _ w14 ⟨A2, c2, rfl, hn2, e14⟩
  have he14 := e14.size
  refine xl_opg (P := Tryz.prog) (some 50) (j := 21) (b := true) rfl rfl (congrArg some (decide_eq_true hf4)) (ox_len (A := A2) (n := ((pathS smallA (runS smallA 0 ([(⟨3, 1⟩ : Sym)]))).length)) (cp := c2) rfl tU_33 rfl ?_)
  refine xl_opg (P := Tryz.prog) (some 51) (j := 21) (b := true) rfl rfl (congrArg some (decide_eq_true hf4)) (ox_eql (k := .i64) (a := ((((pathS smallA (runS smallA 0 ([(⟨3, 1⟩ : Sym)]))).length : Nat) : Int))) (b := 1) rfl rfl ?_)
  refine xl_op (P := Tryz.prog) (some 52) rfl rfl (ox_pick_t (v := (.bool (decide (((((pathS smallA (runS smallA 0 ([(⟨3, 1⟩ : Sym)]))).length : Nat) : Int) : Int) = 1)))) (congrArg Value.bool (decide_eq_true hf4)) rfl ?_)
  refine xl_op (P := Tryz.prog) (some 0) rfl rfl (ox_assign (v := (.bool (decide (((((pathS smallA (runS smallA 0 ([(⟨3, 1⟩ : Sym)]))).length : Nat) : Int) : Int) = 1)))) rfl ?_)
  refine xl_nil ?_
  refine xc_ret ?_
  change leaves _ _ _ _ _ _ _
  refine leaves_nil (n := 53) (rs := [.tmp 0]) (vs := [(.bool (decide (((((pathS smallA (runS smallA 0 ([(⟨3, 1⟩ : Sym)]))).length : Nat) : Int) : Int) = 1)))]) rfl ⟨⟨by decide, rfl⟩, trivial⟩ ?_
  have x4 : Ext w w14 := (Ext.trans (Ext.trans (Ext.trans (Ext.trans (Ext.trans (Ext.trans (Ext.trans (Ext.trans (Ext.trans (Ext.trans (Ext.chg1 (Ext.trans (Ext.trans e1 e2) e3) e4 (by omega)) e5) e6) e7) e8) e9) e10) e11) e12) e13) e14)
  exact ⟨congrArg Value.bool (decide_eq_true (by omega)), x4⟩
end Go.Proofs.YtnnmdkglgnlenaaGreatDoor
set_option linter.unusedVariables false
set_option linter.unusedSimpArgs false
set_option maxRecDepth 100000
set_option maxHeartbeats 4000000
namespace Go.Proofs.YtnnmdkglgnlenaaGreatDoor
open Go Go.RowKit Go.Vx
theorem fm_drop {α : Type} {cs : α → List Value} {k : Nat} (hk : ∀ a, (cs a).length = k) : ∀ (i : Nat) (l : List α), (l.drop i).flatMap cs = (l.flatMap cs).drop (i * k)
  | 0, l => by simp
  | i + 1, [] => by simp
  | i + 1, x :: l => by
    rw [List.drop_succ_cons, fm_drop hk i l, List.flatMap_cons, List.drop_append]
    have h1 : (cs x).drop ((i + 1) * k) = [] := List.drop_of_length_le (by rw [hk, Nat.succ_mul]; omega)
    rw [h1, hk, Nat.succ_mul, Nat.add_sub_cancel]; rfl
theorem RowA.dropD {α : Type} {w : World} {A : Option Addr} {cs : α → List Value} {k c i0 : Nat} {l : List α} (hk : ∀ a, (cs a).length = k) (h1 : i0 ≤ l.length) (hc : l.length ≤ c) (h : RowA w A (l.flatMap cs)) : RowA w (sfA A c i0 k) ((l.drop i0).flatMap cs) := by
  rw [fm_drop hk]
  exact RowA.from i0 h1 hc h (fm_len hk l)
end Go.Proofs.YtnnmdkglgnlenaaGreatDoor
set_option linter.unusedVariables false
set_option linter.unusedSimpArgs false
set_option maxRecDepth 100000
set_option maxHeartbeats 4000000
namespace Go.Proofs.YtnnmdkglgnlenaaGreatDoor
open Go Go.RowKit Go.Vx
theorem built_calls2 (s : SP) (w : World) (hS : SpR w s) (hT : TabP w) : Calls Tryz.prog 9 #[(.agg #[(.slice s.lA s.lex.length s.lc), (.slice s.nA s.names.length s.nc), (.int .i64 s.start), (.slice s.pA s.prods.length s.pc)])] w (Ret fun v w' => ∃ p, v = .pointer p ∧ Ext w w' ∧ ((builtG s.g = none ∧ p = none) ∨ ∃ s1 ba st, p = some ⟨ba, 0, none⟩ ∧ s1.g = s.g ∧ builtG s.g = some st ∧ ∃ B, w.heap.size ≤ B ∧ AutX B w' s1 ba st)) := by
  refine ret_mono (built_calls s w hS hT) ?_
  rintro v w' ⟨he, ⟨h1, rfl⟩ | ⟨s1, ba, st, h1, h2, h3, rfl⟩⟩
  · exact ⟨_, rfl, he, .inl ⟨h1, rfl⟩⟩
  · exact ⟨_, rfl, he, .inr ⟨s1, ba, st, rfl, h1, h2, h3⟩⟩
theorem built_lex {s : SP} {st : List ASt} (h : builtG s.g = some st) : s.lex.length ≤ 64 ∧ s.names.length ≤ 128 ∧ s.prods.length ≤ 512 := by
  unfold builtG at h
  split at h
  · rename_i hc
    unfold checkE at hc
    split at hc
    · exact absurd hc (by decide)
    · rename_i hl
      have h3 : longG s.g = false := by simpa using hl
      unfold longG at h3
      simp only [Bool.or_eq_false_iff, decide_eq_false_iff_not] at h3
      have h4 := s.glex
      have h5 := s.gprods
      have h6 : s.g.names = s.names.length := rfl
      omega
  · cases h
theorem pf_10 : plainF Tryz.prog 10 = true := by kernel_rfl
theorem pf_15 : plainF Tryz.prog 15 = true := by kernel_rfl
theorem pf_9 : plainF Tryz.prog 9 = true := by kernel_rfl
end Go.Proofs.YtnnmdkglgnlenaaGreatDoor
set_option linter.unusedVariables false
set_option linter.unusedSimpArgs false
set_option maxRecDepth 100000
set_option maxHeartbeats 4000000
namespace Go.Proofs.YtnnmdkglgnlenaaGreatDoor
open Go Go.RowKit Go.Vx
theorem fixN_flag {α : Type} {f : α → α × Bool} {μ : α → Nat} {Inv : α → Prop} (hf : ∀ h, Inv h → (f h).2 = true → Inv (f h).1 ∧ μ (f h).1 < μ h) (hs : ∀ h, (f h).2 = false → (f h).1 = h) : ∀ (k : Nat) (h : α), Inv h → μ h < k → Inv (fixN f k h) ∧ (f (fixN f k h)).2 = false
  | 0, h, _, hk => by omega
  | k + 1, h, hi, hk => by
    simp only [fixN]
    split
    · rename_i hg
      obtain ⟨h1, h2⟩ := hf h hi hg
      exact fixN_flag hf hs k _ h1 (by omega)
    · rename_i hg
      have hg : (f h).2 = false := by simpa using hg
      rw [hs h hg]; exact ⟨hi, hg⟩
structure InvD (g : GD) (K : List Itm) (h : CS) : Prop where
  c : InvC g K h
  seen : ∀ (i : Nat) (x : Itm), i < h.2.2.toNat → h.1[i]? = some x → (behindG g x).isSome = true → (bhS g x).kind = 3 → 0 < h.2.1[(bhS g x).n.toNat]!
  all : ∀ n : Int, 0 ≤ n → 0 < h.2.1[n.toNat]! → ∀ (j : Nat) (p : P2), g.prods[j]? = some p → p.1 = n → (⟨(j : Nat), 0⟩ : Itm) ∈ h.1
theorem bangI {l : List Int} {i : Nat} {x : Int} (h : l[i]? = some x) : l[i]! = x := by rw [List.getElem!_eq_getElem?_getD, h]; rfl
theorem bangI_none {l : List Int} {i : Nat} (h : l.length ≤ i) : l[i]! = 0 := by rw [List.getElem!_eq_getElem?_getD, List.getElem?_eq_none h]; rfl
theorem setI_bang {l : List Int} {m k : Nat} {v : Int} (hm : m < l.length) : (l.set m v)[k]! = if k = m then v else l[k]! := by
  rw [List.getElem!_eq_getElem?_getD, List.getElem!_eq_getElem?_getD]
  by_cases h : k = m
  · subst h; rw [if_pos rfl, List.getElem?_set_self hm]; rfl
  · rw [if_neg h, List.getElem?_set_ne (fun e => h e.symm)]
theorem stepC_stop {g : GD} {K : List Itm} (h : CS) (hs : (stepC g K h).2 = false) : (stepC g K h).1 = h ∧ h.1.length ≤ h.2.2.toNat := by
  unfold stepC at hs ⊢
  split at hs
  · split at hs <;> simp at hs
  · rename_i hl
    rw [if_neg hl]; exact ⟨rfl, by omega⟩
theorem InvD.step {g : GD} {K : List Itm} (hG : GoodG g) {h : CS} (hi : InvD g K h) (hs : (stepC g K h).2 = true) : InvD g K (stepC g K h).1 := by
  have hc := (stepC_ok hG hi.c hs).1
  obtain ⟨its, dn, q⟩ := h
  have hq := hi.c.q
  have hse := hi.seen
  have hal := hi.all
  have hdl := hi.c.dl
  have hpre := hi.c.pre
  simp only at hq hse hal hdl hpre
  rcases Nat.lt_or_ge q.toNat its.length with hlt | hge
  · have hx : its[q.toNat]? = some its[q.toNat] := List.getElem?_eq_getElem hlt
    generalize its[q.toNat] = x at hx
    have hq1 : (q + 1).toNat = q.toNat + 1 := by omega
    have hok := hi.c.ok x (List.mem_of_getElem? hx)
    by_cases hcd : (behindG g x).isSome = true ∧ (bhS g x).kind = 3 ∧ ¬ 0 < dn[(bhS g x).n.toNat]!
    · have hn := behind_name hG hok hcd.1 hcd.2.1
      have hlt2 : (bhS g x).n.toNat < dn.length := by omega
      have hv : dn[(bhS g x).n.toNat]? = some dn[(bhS g x).n.toNat] := List.getElem?_eq_getElem hlt2
      have hv0 : dn[(bhS g x).n.toNat] = 0 := by
        rcases hi.c.dv _ (List.mem_of_getElem? hv) with h1 | h1
        · exact h1
        · exact absurd (by rw [bang_of hv, h1]; decide) hcd.2.2
      rw [stepC_main hx hcd hv] at hc ⊢
      rw [hv0] at hc ⊢
      refine ⟨hc, fun i y hiq hy hb hk => ?_, fun n h0 hd j p hj hp => ?_⟩
      · simp only at hiq hy ⊢
        rw [hq1] at hiq
        rw [setI_bang hlt2]
        split
        · decide
        · rename_i hne
          by_cases hiq2 : i = q.toNat
          · subst hiq2
            rw [List.getElem?_append_left hlt, hx] at hy
            cases hy
            exact absurd rfl hne
          · rw [List.getElem?_append_left (by omega)] at hy
            exact hse i y (by omega) hy hb hk
      · simp only at hd ⊢
        rw [setI_bang hlt2] at hd
        split at hd
        · rename_i he
          have he : n = (bhS g x).n := by omega
          by_cases hK : (⟨(j : Nat), 0⟩ : Itm) ∈ K
          · refine List.mem_append_left _ ?_
            rw [← hpre] at hK
            exact List.mem_of_mem_take hK
          · exact List.mem_append_right _ ((newP_mem K _).2 ⟨j, p, hj, hp.trans he, by rw [Nat.zero_add], hK⟩)
        · exact List.mem_append_left _ (hal n h0 hd j p hj hp)
    · rw [stepC_skip hx hcd] at hc ⊢
      refine ⟨hc, fun i y hiq hy hb hk => ?_, fun n h0 hd j p hj hp => hal n h0 hd j p hj hp⟩
      simp only at hiq hy ⊢
      rw [hq1] at hiq
      by_cases hiq2 : i = q.toNat
      · subst hiq2
        rw [hx] at hy; cases hy
        exact Classical.byContradiction fun h9 => hcd ⟨hb, hk, h9⟩
      · exact hse i y (by omega) hy hb hk
  · exact absurd hs (by rw [stepC_end (by omega)]; decide)
theorem InvD.start {g : GD} {K : List Itm} (hI : ∀ x ∈ K, okI g x) : InvD g K (K, List.replicate g.names 0, 0) := by
  refine ⟨InvC.start hI, fun i x hi => by simp at hi, fun n h0 hd => ?_⟩
  simp only at hd
  have : (List.replicate g.names (0 : Int))[n.toNat]! = 0 := by
    by_cases hl : n.toNat < g.names
    · exact bangI (by rw [List.getElem?_replicate, if_pos hl])
    · exact bangI_none (by rw [List.length_replicate]; omega)
  rw [this] at hd; exact absurd hd (by decide)
theorem closG_closed {g : GD} (hG : GoodG g) {K : List Itm} (hK : ∀ x ∈ K, okI g x) {y : Itm} (hy : y ∈ closG g K) {z : Sym} (hb : behindG g y = some z) (hk : z.kind = 3) {j : Nat} {p : P2} (hj : g.prods[j]? = some p) (hp : p.1 = z.n) : (⟨(j : Nat), 0⟩ : Itm) ∈ closG g K := by
  rw [closG_mem] at hy ⊢
  have hf := fixN_flag (f := stepC g K) (μ := muC g) (Inv := InvD g K) (fun h hi hs => ⟨hi.step hG hs, (stepC_ok hG hi.c hs).2⟩) (fun h hs => (stepC_stop h hs).1) (muC g (K, List.replicate g.names 0, 0) + 1) _ (InvD.start hK) (Nat.lt_succ_self _)
  have hI : InvD g K (closF g K) := hf.1
  have hl := (stepC_stop _ hf.2).2
  obtain ⟨i, hi⟩ := List.mem_iff_getElem?.1 hy
  have hil := (List.getElem?_eq_some_iff.1 hi).1
  have hs : (behindG g y).isSome = true := by rw [hb]; rfl
  have he : bhS g y = z := by rw [bhS, hb]; rfl
  have hn := behind_name hG (hI.c.ok y hy) hs (by rw [he]; exact hk)
  have h1 := hI.seen i y (Nat.lt_of_lt_of_le hil hl) hi hs (by rw [he]; exact hk)
  rw [he] at h1 hn
  exact hI.all z.n hn.1 h1 j p hj hp
theorem stepB_has {good : Sym → Bool} {P : Nat → Prop} : ∀ (ps : List P2) (h : List Bool) (gr : Bool), (∀ p ∈ ps, P p.1.toNat) → (∀ i, h[i]? = some true → P i) → ∀ i, (stepB good ps h gr).1[i]? = some true → P i
  | [], h, gr, _, hh => hh
  | p :: ps, h, gr, hp, hh => by
    rw [stepB]
    split
    · refine stepB_has ps _ _ (fun q hq => hp q (by simp [hq])) fun i hi => ?_
      by_cases he : i = p.1.toNat
      · rw [he]; exact hp p (by simp)
      · rw [List.getElem?_set_ne (fun e => he e.symm)] at hi; exact hh i hi
    · exact stepB_has ps h gr (fun q hq => hp q (by simp [hq])) hh
theorem idxO_neg {y : Bool} : ∀ {l : List Bool} {k : Nat}, ¬ 0 ≤ idxO y l k → y ∉ l
  | [], _, _ => by simp
  | x :: l, k, h => by
    rw [idxO] at h
    split at h
    · omega
    · rename_i hx
      intro hm
      rcases List.mem_cons.1 hm with rfl | hm
      · exact hx rfl
      · exact idxO_neg h hm
theorem name_has {g : GD} (hc : (checkE g).1 = 0) {n : Int} (h0 : 0 ≤ n) (hn : n < (g.names : Int)) : ∃ (j : Nat) (p : P2), g.prods[j]? = some p ∧ p.1 = n := by
  have hG := (GoodL.of hc).good
  have hm : ¬ 0 ≤ idxO false (madeG (fun _ => true) g) 0 := by
    unfold checkE at hc
    split at hc
    · exact absurd hc (by decide)
    · split at hc
      · rename_i h9; exact absurd hc h9
      · split at hc
        · rename_i h9; exact absurd hc h9
        · split at hc
          · simp at hc
          · assumption
  have hf := idxO_neg hm
  have hlen := madeG_len (fun _ => true) g
  have hi : n.toNat < (madeG (fun _ => true) g).length := by omega
  have hx : (madeG (fun _ => true) g)[n.toNat]? = some true := by
    rw [List.getElem?_eq_getElem hi]; congr 1
    cases hb : (madeG (fun _ => true) g)[n.toNat] with
    | true => rfl
    | false => exact absurd (hb ▸ List.getElem_mem hi) hf
  have key : ∀ i, (madeG (fun _ => true) g)[i]? = some true → ∃ p ∈ g.prods, p.1.toNat = i := by
    unfold madeG
    refine fixN_inv (P := fun h : List Bool => ∀ i, h[i]? = some true → ∃ p ∈ g.prods, p.1.toNat = i) (fun h hh => ?_) _ _ (fun i hi => ?_)
    · exact stepB_has (P := fun i => ∃ p ∈ g.prods, p.1.toNat = i) _ _ _ (fun p hp => ⟨p, hp, rfl⟩) hh
    · rw [List.getElem?_replicate] at hi
      split at hi <;> cases hi
  obtain ⟨p, hp, he⟩ := key _ hx
  obtain ⟨j, hj⟩ := List.mem_iff_getElem?.1 hp
  exact ⟨j, p, hj, by have := (hG.2 p hp).1; omega⟩
section
variable {g : GD} {st : List ASt} (h : Aut g st)
include h
theorem items_closed {k : Nat} {x : ASt} (hx : st[k]? = some x) {y : Itm} (hy : y ∈ x.items) {z : Sym} (hb : behindG g y = some z) (hk : z.kind = 3) {j : Nat} {p : P2} (hj : g.prods[j]? = some p) (hp : p.1 = z.n) : (⟨(j : Nat), 0⟩ : Itm) ∈ x.items := by
  have hK : ∀ u ∈ x.kernel, okI g u := fun u hu => (h.ok.ok x (List.mem_of_getElem? hx) u (by
    have := (kern_len h hx).2.2
    rw [← this] at hu; exact List.mem_of_mem_take hu)).1
  rw [h.shape k x hx] at hy ⊢
  exact closG_closed h.good.good hK hy hb hk hj hp
theorem item_over {k : Nat} {x : ASt} (hx : st[k]? = some x) {y : Itm} (hy : y ∈ x.items) {z : Sym} (hb : behindG g y = some z) : ∃ (j : Nat) (u : ASt), goS st (k : Nat) z = (j : Nat) ∧ st[j]? = some u ∧ (⟨y.p, y.dot + 1⟩ : Itm) ∈ u.items := by
  obtain ⟨j, u, e1, e2, _, _, e5, _⟩ := go_to h hx ((go_stands h hx z).2 ⟨y, hy, hb⟩)
  refine ⟨j, u, e1, e2, ?_⟩
  have hm : (⟨y.p, y.dot + 1⟩ : Itm) ∈ u.kernel := by rw [e5]; exact overG_mem.2 ⟨y, hy, hb, rfl⟩
  rw [← (kern_len h e2).2.2] at hm
  exact List.mem_of_mem_take hm
theorem run_state : ∀ (l : List Sym) (k : Nat) (x : ASt), st[k]? = some x → 0 ≤ runS st (k : Nat) l → ∃ (j : Nat) (y : ASt), runS st (k : Nat) l = (j : Nat) ∧ st[j]? = some y
  | [], k, x, hx, _ => ⟨k, x, rfl, hx⟩
  | z :: l, k, x, hx, hr => by
    rw [runS] at hr ⊢
    split at hr
    · omega
    · rename_i hn
      obtain ⟨j, y, e1, e2, _⟩ := go_to h hx (by omega : 0 ≤ goS st (k : Nat) z)
      rw [if_neg hn, e1]
      rw [e1] at hr
      exact run_state l j y e2 hr
theorem run_at (l : List Sym) (hr : 0 ≤ runS st 0 l) : ∃ (j : Nat) (y : ASt), runS st 0 l = (j : Nat) ∧ st[j]? = some y := by
  obtain ⟨x, hx, _⟩ := h.first
  exact run_state h l 0 x hx hr
omit h in
theorem run_snoc {l : List Sym} {z : Sym} {k : Nat} (hr : runS st 0 l = (k : Nat)) : runS st 0 (l ++ [z]) = goS st (k : Nat) z := by
  rw [runS_append [z] hr (by omega), runS]
  split
  · rfl
  · rfl
def FormOk (g : GD) (st : List ASt) (form : List Sym) : Prop := ∀ (a : Nat) (z : Sym), form[a]? = some z → z.kind = 3 → (∀ (b : Nat) (u : Sym), a < b → form[b]? = some u → u.kind ≠ 3) →
  (∀ k, k ≤ a → 0 ≤ runS st 0 (form.take k)) ∧ ∃ (q : Nat) (x : ASt) (y : Itm), runS st 0 (form.take a) = (q : Nat) ∧ st[q]? = some x ∧ y ∈ x.items ∧ behindG g y = some z
omit h in
theorem closG_kmem {g : GD} {K : List Itm} {x : Itm} (hx : x ∈ K) : x ∈ closG g K := by
  have := closG_pre (closF_pre g K)
  rw [← this] at hx
  exact List.mem_of_mem_take hx
theorem form_start : FormOk g st [⟨3, g.start⟩] := by
  intro a z hz _ _
  have ha : a = 0 := by have := (List.getElem?_eq_some_iff.1 hz).1; simp at this; omega
  subst ha
  simp only [List.getElem?_cons_zero, Option.some.injEq] at hz
  subst hz
  obtain ⟨x, hx, hk, _⟩ := h.first
  refine ⟨fun k hk => ?_, 0, x, ⟨-1, 0⟩, rfl, hx, ?_, rfl⟩
  · have : k = 0 := by omega
    subst this; exact Int.le_refl _
  · rw [h.shape 0 x hx, hk]; exact closG_kmem (by simp)
section
variable {form : List Sym} {a j : Nat} {z : Sym} {p : P2} (hF : FormOk g st form) (hz : form[a]? = some z) (hk : z.kind = 3) (hl : ∀ (b : Nat) (u : Sym), a < b → form[b]? = some u → u.kind ≠ 3) (hj : g.prods[j]? = some p) (hp : p.1 = z.n)
include hF hz hk hl hj hp
theorem form_fronts : ∀ k, k ≤ a + p.2.length → (0 ≤ runS st 0 ((form.take a ++ p.2 ++ form.drop (a + 1)).take k)) ∧ (a ≤ k → ∃ (q : Nat) (x : ASt), runS st 0 ((form.take a ++ p.2 ++ form.drop (a + 1)).take k) = (q : Nat) ∧ st[q]? = some x ∧ (⟨(j : Nat), ((k - a : Nat) : Int)⟩ : Itm) ∈ x.items) := by
  obtain ⟨h1, q, x, y, h2, h3, h4, h5⟩ := hF a z hz hk hl
  have hal := (List.getElem?_eq_some_iff.1 hz).1
  have hta : (form.take a).length = a := by rw [List.length_take]; omega
  have hlow : ∀ k, k ≤ a → (form.take a ++ p.2 ++ form.drop (a + 1)).take k = form.take k := fun k hk => by
    rw [List.append_assoc, List.take_append_of_le_length (by omega), List.take_take, Nat.min_eq_left hk]
  have key : ∀ d, d ≤ p.2.length → ∃ (q : Nat) (x : ASt), runS st 0 ((form.take a ++ p.2 ++ form.drop (a + 1)).take (a + d)) = (q : Nat) ∧ st[q]? = some x ∧ (⟨(j : Nat), (d : Nat)⟩ : Itm) ∈ x.items := by
    intro d
    induction d with
    | zero =>
      intro _
      refine ⟨q, x, ?_, h3, items_closed h h3 h4 h5 hk hj hp⟩
      rw [Nat.add_zero, hlow a (Nat.le_refl _)]; exact h2
    | succ d ih =>
      intro hd
      obtain ⟨q, x, e1, e2, e3⟩ := ih (by omega)
      have hzd : p.2[d]? = some p.2[d] := List.getElem?_eq_getElem (by omega)
      have hb : behindG g ⟨(j : Nat), (d : Nat)⟩ = some p.2[d] := by
        unfold behindG rightG
        rw [if_neg (by simp only; omega)]
        simp only [Int.toNat_natCast]
        rw [List.getElem!_eq_getElem?_getD, hj]; exact hzd
      obtain ⟨q', u, d1, d2, d3⟩ := item_over h e2 e3 hb
      refine ⟨q', u, ?_, d2, by simpa using d3⟩
      have hnx : (form.take a ++ p.2 ++ form.drop (a + 1)).take (a + (d + 1)) = (form.take a ++ p.2 ++ form.drop (a + 1)).take (a + d) ++ [p.2[d]] := by
        rw [← Nat.add_assoc, List.take_add_one]
        congr 1
        rw [List.append_assoc, List.getElem?_append_right (by omega), hta, Nat.add_sub_cancel_left, List.getElem?_append_left (by omega), hzd]; rfl
      rw [hnx, run_snoc e1, d1]
  intro k hk2
  by_cases hka : a ≤ k
  · obtain ⟨d, rfl⟩ : ∃ d, k = a + d := ⟨k - a, by omega⟩
    obtain ⟨q, x, e1, e2, e3⟩ := key d (by omega)
    exact ⟨by rw [e1]; omega, fun _ => ⟨q, x, e1, e2, by rw [Nat.add_sub_cancel_left]; exact e3⟩⟩
  · exact ⟨by rw [hlow k (by omega)]; exact h1 k (by omega), fun h9 => absurd h9 hka⟩
theorem form_next : FormOk g st (form.take a ++ p.2 ++ form.drop (a + 1)) := by
  have hfr := form_fronts h hF hz hk hl hj hp
  obtain ⟨h1, q, x, y, h2, h3, h4, h5⟩ := hF a z hz hk hl
  have hal := (List.getElem?_eq_some_iff.1 hz).1
  have hta : (form.take a).length = a := by rw [List.length_take]; omega
  intro b u hu huk hul
  have hb : b < a + p.2.length := Classical.byContradiction fun hb => by
    rw [List.append_assoc, List.getElem?_append_right (by omega), hta, List.getElem?_append_right (by omega), List.getElem?_drop] at hu
    exact hl (a + 1 + (b - a - p.2.length)) u (by omega) hu huk
  refine ⟨fun k hk2 => (hfr k (by omega)).1, ?_⟩
  by_cases hba : a ≤ b
  · obtain ⟨q', x', e1, e2, e3⟩ := (hfr b (by omega)).2 hba
    refine ⟨q', x', _, e1, e2, e3, ?_⟩
    rw [List.append_assoc, List.getElem?_append_right (by omega), hta, List.getElem?_append_left (by omega)] at hu
    unfold behindG rightG
    rw [if_neg (by simp only; omega)]
    simp only [Int.toNat_natCast]
    rw [List.getElem!_eq_getElem?_getD, hj]; exact hu
  · have hlow : ∀ k, k ≤ a → (form.take a ++ p.2 ++ form.drop (a + 1)).take k = form.take k := fun k hk => by
      rw [List.append_assoc, List.take_append_of_le_length (by omega), List.take_take, Nat.min_eq_left hk]
    rw [List.append_assoc, List.getElem?_append_left (by omega), List.getElem?_take, if_pos (by omega)] at hu
    obtain ⟨q', x', e1, e2⟩ := run_at h _ (h1 b (by omega))
    have hg : 0 ≤ goS st (q' : Nat) u := by
      have h9 := h1 (b + 1) (by omega)
      rw [List.take_add_one, hu] at h9
      have h8 := run_snoc (z := u) e1
      rw [← h8]; exact h9
    obtain ⟨y', d1, d2⟩ := (go_stands h e2 u).1 hg
    exact ⟨q', x', y', by rw [hlow b (by omega)]; exact e1, e2, d1, d2⟩
end
end
end Go.Proofs.YtnnmdkglgnlenaaGreatDoor
set_option linter.unusedVariables false
set_option linter.unusedSimpArgs false
set_option maxRecDepth 100000
set_option maxHeartbeats 4000000
namespace Go.Proofs.YtnnmdkglgnlenaaGreatDoor
open Go Go.RowKit Go.Vx
theorem mem_drop_no {α : Type} {x y : α} {l : List α} {i : Nat} (hy : l[i]? = some y) (h : ¬ x = y) : x ∈ l.drop i ↔ x ∈ l.drop (i + 1) := by
  rw [drop_get hy, List.mem_cons]
  exact ⟨fun h9 => h9.resolve_left h, .inr⟩
theorem pick_yes {l : List PD} {nm : Int} {y : List Int} {i : Nat} {x : PD} (h : ∀ e ∈ y, ∃ (j : Nat) (q : PD), e = (j : Nat) ∧ l[j]? = some q ∧ q.left = nm) (hx : l[i]? = some x) (hl : x.left = nm) : ∀ e ∈ y ++ [((i : Nat) : Int)], ∃ (j : Nat) (q : PD), e = (j : Nat) ∧ l[j]? = some q ∧ q.left = nm := by
  intro e he
  rcases List.mem_append.1 he with he | he
  · exact h e he
  · exact ⟨i, x, List.mem_singleton.1 he, hx, hl⟩
theorem pick_no {l : List PD} {nm : Int} {i : Nat} {x : PD} (h : ∀ (j : Nat) (q : PD), j < i → l[j]? = some q → q.left ≠ nm) (hx : l[i]? = some x) (hl : ¬ x.left = nm) : ∀ (j : Nat) (q : PD), j < i + 1 → l[j]? = some q → q.left ≠ nm := by
  intro j q hj hq
  by_cases he : j = i
  · subst he; rw [hx] at hq; cases hq; exact hl
  · exact h j q (by omega) hq
theorem last_calls (l : List Sym) (A : Option Addr) (c : Nat) (w : World) (hA : RowA w A (l.flatMap Sym.cs)) (hn : l.length ≤ 8796093022208) :
    Calls Tryz.prog 11 #[(.slice A l.length c)] w (Ret (fun v w' => ∃ p : Int, v = .int .i64 p ∧ ((p = -1 ∧ ∀ (b : Nat) (u : Sym), l[b]? = some u → u.kind ≠ 3) ∨ ∃ (a : Nat) (z : Sym), p = (a : Nat) ∧ l[a]? = some z ∧ z.kind = 3 ∧ ∀ (b : Nat) (u : Sym), a < b → l[b]? = some u → u.kind ≠ 3) ∧ Ext w w')) := by
  refine calls_xc (n := 18) (f := fun s_ => [(.slice A l.length c)].getD s_ undef) Tryz.func11 rfl rfl (by simp) (fun s_ => by simp) ?_
  refine xc_seq ?_
  refine xc_region ?_
  refine xl_op (P := Tryz.prog) (some 2) rfl rfl (ox_assign (v := (.int .i64 0)) rfl ?_)
  refine xl_nil ?_
  refine xc_seq ?_
  refine xc_seq ?_
  refine xc_region ?_
  refine xl_op (P := Tryz.prog) (some 4) rfl rfl (ox_move (v := (.slice A l.length c)) rfl ?_)
  refine xl_op (P := Tryz.prog) (some 5) rfl rfl (ox_len (A := A) (n := l.length) (cp := c) rfl tU_33 rfl ?_)
  refine xl_op (P := Tryz.prog) (some 6) rfl rfl (ox_sub64 (a := (((l.length : Nat) : Int))) (b := 1) rfl rfl (by omega) ?_)
  refine xl_op (P := Tryz.prog) (some 3) rfl rfl (ox_assign (v := (.int .i64 (((l.length : Nat) : Int) - 1))) rfl ?_)
  refine xl_nil ?_
  refine xc_block ?_
  refine xc_loopN (fun m_ f_ Wx => ∃ (k : Int), m_ = (k + 1).toNat ∧ (-1 ≤ k ∧ k < (l.length : Int)) ∧ (∀ (b : Nat) (u : Sym), k < (b : Int) → l[b]? = some u → u.kind ≠ 3) ∧ f_ 0 = (.slice A l.length c) ∧ f_ 3 = (.int .i64 k) ∧ Ext w Wx) (l.length) ?_ ?_
  · exact ⟨((l.length : Nat) : Int) - 1, (by omega), (by omega), (fun b u hb hu => by have := (List.getElem?_eq_some_iff.1 hu).1; omega), rfl, (by first | exact rfl | exact (congrArg (Value.int .i64) (by omega))), (Chg.refl _ _)⟩
  · rintro m_ f1 w1 ⟨k, hm_f1, hkr, hno, g0_f1, g3_f1, x1⟩
    have hx1 := x1.size
    refine xc_seq ?_
    refine xc_seq ?_
    refine xc_region ?_
    refine xl_op (P := Tryz.prog) (some 7) rfl rfl (ox_move (v := (.int .i64 k)) g3_f1 ?_)
    refine xl_op (P := Tryz.prog) (some 8) rfl rfl (ox_geq (k := .i64) (a := k) (b := 0) rfl rfl ?_)
    refine xl_nil ?_
    refine xc_if (p := (0 : Int) ≤ k) rfl (fun h1 => ?_) (fun h1 => ?_)
    · skip
      try have hk0 : 0 ≤ k := by omega
      refine xc_skip ?_
      refine xc_seq ?_
      refine xc_block ?_
      refine xc_seq ?_
      refine xc_region ?_
      refine xl_op (P := Tryz.prog) (some 11) rfl rfl (ox_move (v := (.slice A l.length c)) g0_f1 ?_)
      refine xl_op (P := Tryz.prog) (some 12) rfl rfl (ox_move (v := (.int .i64 k)) g3_f1 ?_)
      obtain ⟨x_1, g_1, o_1, hx_1⟩ := row_may (A := A) (cs := Sym.cs) k.toNat Sym.len (by decide) (RowA.ext hA x1)
      obtain ⟨hx_2, hA_1, hc_1⟩ := hx_1 (by first | omega | (simp only [List.length_drop, List.length_replicate, List.length_set, List.length_append, List.length_map, List.length_singleton] at *; omega))
      refine xl_op (P := Tryz.prog) (some 13) rfl rfl (ox_ixA (b := g_1) (o := o_1) (i := k) k.toNat tE_33 hA_1 rfl rfl (by omega) (by omega) ?_)
      refine xl_op (P := Tryz.prog) (some 14) rfl rfl (ox_fieldAddr (b := g_1) (o := (o_1 + k.toNat * 2)) tF_32_0 rfl ?_)
      refine xl_op (P := Tryz.prog) (some 15) rfl rfl (ox_load (v := (.int .i64 x_1.kind)) tA_3 rfl (CellsL.at1 hc_1 0 rfl) ?_)
      refine xl_op (P := Tryz.prog) (some 16) rfl rfl (ox_eql (k := .i64) (a := x_1.kind) (b := 3) rfl rfl ?_)
      refine xl_nil ?_
      refine xc_if (p := (x_1.kind : Int) = 3) rfl (fun h2 => ?_) (fun h2 => ?_)
      · skip
        refine xc_seq ?_
        refine xc_region ?_
        refine xl_op (P := Tryz.prog) (some 17) rfl rfl (ox_move (v := (.int .i64 k)) g3_f1 ?_)
        refine xl_op (P := Tryz.prog) (some 2) rfl rfl (ox_assign (v := (.int .i64 k)) rfl ?_)
        refine xl_nil ?_
        refine xc_ret ?_
        change leaves _ _ _ _ _ _ _
        refine leaves_nil (n := 18) (rs := [.tmp 2]) (vs := [(.int .i64 k)]) rfl ⟨⟨by decide, rfl⟩, trivial⟩ ?_
        exact ⟨k, rfl, .inr ⟨k.toNat, x_1, by omega, hx_2, h2, fun b u hb hu => hno b u (by omega) hu⟩, x1⟩
      · skip
        refine xc_skip ?_
        refine xc_region ?_
        refine xl_op (P := Tryz.prog) (some 9) rfl rfl (ox_move (v := (.int .i64 k)) g3_f1 ?_)
        refine xl_op (P := Tryz.prog) (some 10) rfl rfl (ox_sub64 (a := k) (b := 1) rfl rfl (by omega) ?_)
        refine xl_op (P := Tryz.prog) (some 3) rfl rfl (ox_assign (v := (.int .i64 (k - 1))) rfl ?_)
        refine xl_nil ?_
        exact ⟨rfl, _, by omega, (k - 1), rfl, (by omega), (fun b u hb hu => if hbk : b = k.toNat then (by subst hbk; rw [hx_2] at hu; cases hu; exact h2) else hno b u (by omega) hu), g0_f1, (by first | exact rfl | exact (congrArg (Value.int .i64) (by omega))), x1⟩
    · skip
      try have hk0 : 0 ≤ k := by omega
      refine xc_exit ?_
      refine xc_seq ?_
      refine xc_region ?_
      refine xl_op (P := Tryz.prog) (some 2) rfl rfl (ox_assign (v := (.int .i64 (-1))) rfl ?_)
      refine xl_nil ?_
      refine xc_ret ?_
      change leaves _ _ _ _ _ _ _
      refine leaves_nil (n := 18) (rs := [.tmp 2]) (vs := [(.int .i64 (-1))]) rfl ⟨⟨by decide, rfl⟩, trivial⟩ ?_
      exact ⟨_, rfl, .inl ⟨rfl, fun b u hu => hno b u (by omega) hu⟩, x1⟩
theorem holds_calls (l : List Itm) (A : Option Addr) (c : Nat) (x : Itm) (w : World) (hA : RowA w A (l.flatMap Itm.cs)) (hn : l.length ≤ 8796093022208) :
    Calls Tryz.prog 14 #[(.slice A l.length c), (.agg #[(.int .i64 x.p), (.int .i64 x.dot)])] w (Ret (fun v w' => v = .bool (decide (x ∈ l)) ∧ Ext w w')) := by
  refine calls_xc (n := 18) (f := fun s_ => [(.slice A l.length c), (.agg #[(.int .i64 x.p), (.int .i64 x.dot)])].getD s_ undef) Tryz.func14 rfl rfl (by simp) (fun s_ => by simp) ?_
  refine xc_seq ?_
  refine xc_region ?_
  refine xl_op (P := Tryz.prog) (some 3) rfl rfl (ox_box (v := (.agg #[(.int .i64 x.p), (.int .i64 x.dot)])) rfl ?_)
  intro w1 e1 z1 b1
  replace b1 : Blk w1 w.heap.size #[(.int .i64 x.p), (.int .i64 x.dot)] 42 := b1
  refine xl_op (P := Tryz.prog) (some 4) rfl rfl (ox_assign (v := (.bool false)) rfl ?_)
  refine xl_nil ?_
  refine xc_seq ?_
  refine xc_seq ?_
  refine xc_region ?_
  refine xl_op (P := Tryz.prog) (some 5) rfl rfl (ox_assign (v := (.int .i64 0)) rfl ?_)
  refine xl_nil ?_
  refine xc_block ?_
  refine xc_loopN (fun m_ f_ Wx => ∃ (i : Nat), m_ = l.length - i ∧ (i ≤ l.length) ∧ (x ∈ l ↔ x ∈ l.drop i) ∧ f_ 0 = (.slice A l.length c) ∧ f_ 3 = (.pointer (some ⟨w.heap.size, 0, none⟩)) ∧ f_ 5 = (.int .i64 ((i : Nat))) ∧ Ext w1 Wx) (l.length) ?_ ?_
  · exact ⟨0, (by omega), (by omega), Iff.rfl, rfl, rfl, (by first | exact rfl | exact (congrArg (Value.int .i64) (by omega))), (Chg.refl _ _)⟩
  · rintro m_ f1 w2 ⟨i, hm_f1, hi, hq, g0_f1, g3_f1, g5_f1, x1⟩
    have hx1 := x1.size
    refine xc_seq ?_
    refine xc_seq ?_
    refine xc_region ?_
    refine xl_op (P := Tryz.prog) (some 6) rfl rfl (ox_move (v := (.int .i64 ((i : Nat)))) g5_f1 ?_)
    refine xl_op (P := Tryz.prog) (some 7) rfl rfl (ox_move (v := (.slice A l.length c)) g0_f1 ?_)
    refine xl_op (P := Tryz.prog) (some 8) rfl rfl (ox_len (A := A) (n := l.length) (cp := c) rfl tU_39 rfl ?_)
    refine xl_op (P := Tryz.prog) (some 9) rfl rfl (ox_lss (k := .i64) (a := ((i : Nat))) (b := (((l.length : Nat) : Int))) rfl rfl ?_)
    refine xl_nil ?_
    refine xc_if (p := ((i : Nat) : Int) < (((l.length : Nat) : Int))) rfl (fun h1 => ?_) (fun h1 => ?_)
    · skip
      refine xc_skip ?_
      refine xc_seq ?_
      refine xc_block ?_
      refine xc_seq ?_
      refine xc_regionE [] (fun W_ => Chg (fun _ => False) w2 W_) hmix ?_
      intro w3 e2 z2
      have hS1 : Chg (fun _ => False) w2 w3 := Ext.to e2
      refine xd_pure 0 (some 12) rfl rfl (by kernel_rfl) (v := (.slice A l.length c)) (.inl ⟨rfl, fun W_ hW_ => ox_move (v := (.slice A l.length c)) g0_f1 ⟨rfl, rfl⟩⟩) ?_
      refine xd_pure 1 (some 13) rfl rfl (by kernel_rfl) (v := (.int .i64 ((i : Nat)))) (.inl ⟨rfl, fun W_ hW_ => ox_move (v := (.int .i64 ((i : Nat)))) g5_f1 ⟨rfl, rfl⟩⟩) ?_
      have x2 : Ext w w2 := (Ext.trans e1 x1)
      obtain ⟨x_1, g_1, o_1, hx_1⟩ := row_may (A := A) (cs := Itm.cs) i Itm.len (by decide) (RowA.ext hA x2)
      obtain ⟨hx_2, hA_1, hc_1⟩ := hx_1 (by first | omega | (simp only [List.length_drop, List.length_replicate, List.length_set, List.length_append, List.length_map, List.length_singleton] at *; omega))
      refine xd_pure 2 (some 14) rfl rfl (by kernel_rfl) (v := (.pointer (some ⟨g_1, o_1 + i * 2, none⟩))) (.inl ⟨rfl, fun W_ hW_ => ox_ixA (b := g_1) (o := o_1) (i := ((i : Nat))) i tE_39 hA_1 rfl rfl rfl (by omega) ⟨rfl, rfl⟩⟩) ?_
      refine xd_take 3 (some 15) rfl rfl (by kernel_rfl) (v := (.agg #[(.int .i64 x_1.p), (.int .i64 x_1.dot)])) (.inl ⟨rfl, fun W_ hW_ => ox_loadN (vs := [(.int .i64 x_1.p), (.int .i64 x_1.dot)]) tA_42 tS_42 rfl rfl (CellsL.keep hW_ not_false hc_1) ⟨rfl, rfl⟩⟩) hS1 ?_
      refine xd_take 4 (some 16) rfl rfl (by kernel_rfl) (v := (.agg #[(.int .i64 x.p), (.int .i64 x.dot)])) (.inl ⟨rfl, fun W_ hW_ => ox_loadN (vs := [(.int .i64 x.p), (.int .i64 x.dot)]) tA_42 tS_42 g3_f1 rfl ⟨((b1.ext x1).ext hW_).cell rfl, ((b1.ext x1).ext hW_).cell rfl, trivial⟩ ⟨rfl, rfl⟩⟩) hS1 ?_
      refine xd_pure 5 (some 17) rfl rfl (by kernel_rfl) (v := (.bool (decide (((x_1.p : Int) = x.p ∧ (x_1.dot : Int) = x.dot))))) (.inl ⟨rfl, fun W_ hW_ => ox_eqlF (xs := [(.int .i64 x_1.p), (.int .i64 x_1.dot)]) (ys := [(.int .i64 x.p), (.int .i64 x.dot)]) (p := ((x_1.p : Int) = x.p ∧ (x_1.dot : Int) = x.dot)) fS_42 rfl rfl rfl rfl (by simp) ⟨rfl, rfl⟩⟩) ?_
      refine xd_done (by kernel_rfl) ?_ _
      refine xc_if (p := ((x_1.p : Int) = x.p ∧ (x_1.dot : Int) = x.dot)) rfl (fun h2 => ?_) (fun h2 => ?_)
      · skip
        refine xc_seq ?_
        refine xc_region ?_
        refine xl_op (P := Tryz.prog) (some 4) rfl rfl (ox_assign (v := (.bool true)) rfl ?_)
        refine xl_nil ?_
        refine xc_ret ?_
        change leaves _ _ _ _ _ _ _
        refine leaves_nil (n := 18) (rs := [.tmp 4]) (vs := [(.bool true)]) rfl ⟨⟨by decide, rfl⟩, trivial⟩ ?_
        have x3 : Ext w w3 := (Ext.trans x2 e2)
        exact ⟨congrArg Value.bool (decide_eq_true (by have h9 := List.mem_of_getElem? hx_2; have h8 : x = x_1 := (by cases x; cases x_1; simp_all); rw [h8]; exact h9)).symm, x3⟩
      · skip
        refine xc_skip ?_
        refine xc_region ?_
        refine xl_op (P := Tryz.prog) (some 10) rfl rfl (ox_move (v := (.int .i64 ((i : Nat)))) g5_f1 ?_)
        refine xl_op (P := Tryz.prog) (some 11) rfl rfl (ox_add64 (a := ((i : Nat))) (b := 1) rfl rfl (by omega) ?_)
        refine xl_op (P := Tryz.prog) (some 5) rfl rfl (ox_assign (v := (.int .i64 ((i : Nat) + 1))) rfl ?_)
        refine xl_nil ?_
        have x4 : Ext w1 w3 := (Ext.trans x1 e2)
        exact ⟨rfl, l.length - (i + 1), by omega, i + 1, by omega, (by omega), (hq.trans (mem_drop_no hx_2 (fun h9 => h2 (by rw [← h9]; exact ⟨rfl, rfl⟩)))), g0_f1, g3_f1, (by first | exact rfl | exact (congrArg (Value.int .i64) (by omega))), x4⟩
    · skip
      refine xc_exit ?_
      refine xc_seq ?_
      refine xc_region ?_
      refine xl_op (P := Tryz.prog) (some 4) rfl rfl (ox_assign (v := (.bool false)) rfl ?_)
      refine xl_nil ?_
      refine xc_ret ?_
      change leaves _ _ _ _ _ _ _
      refine leaves_nil (n := 18) (rs := [.tmp 4]) (vs := [(.bool false)]) rfl ⟨⟨by decide, rfl⟩, trivial⟩ ?_
      have x5 : Ext w w2 := (Ext.trans e1 x1)
      exact ⟨congrArg Value.bool (decide_eq_false (fun h9 => by have h8 := hq.1 h9; rw [List.drop_of_length_le (by omega)] at h8; cases h8)).symm, x5⟩
theorem pick_calls (s : SP) (nm ch : Int) (w : World) (hS : SpR w s) :
    Calls Tryz.prog 12 #[(.agg #[(.slice s.lA s.lex.length s.lc), (.slice s.nA s.names.length s.nc), (.int .i64 s.start), (.slice s.pA s.prods.length s.pc)]), (.int .i64 nm), (.int .i64 ch)] w (Ret (fun v w' => ∃ e : Int, v = .int .i64 e ∧ ((e = -1 ∧ ∀ (j : Nat) (q : PD), s.prods[j]? = some q → q.left ≠ nm) ∨ ∃ (j : Nat) (q : PD), e = (j : Nat) ∧ s.prods[j]? = some q ∧ q.left = nm) ∧ Ext w w')) := by
  have hfp := hS.fp.by
  refine calls_xc (n := 45) (f := fun s_ => [(.agg #[(.slice s.lA s.lex.length s.lc), (.slice s.nA s.names.length s.nc), (.int .i64 s.start), (.slice s.pA s.prods.length s.pc)]), (.int .i64 nm), (.int .i64 ch)].getD s_ undef) Tryz.func12 rfl rfl (by simp) (fun s_ => by simp) ?_
  refine xc_seq ?_
  refine xc_region ?_
  refine xl_op (P := Tryz.prog) (some 3) rfl rfl (ox_box (v := (.agg #[(.slice s.lA s.lex.length s.lc), (.slice s.nA s.names.length s.nc), (.int .i64 s.start), (.slice s.pA s.prods.length s.pc)])) rfl ?_)
  intro w1 e1 z1 b1
  replace b1 : Blk w1 w.heap.size #[(.slice s.lA s.lex.length s.lc), (.slice s.nA s.names.length s.nc), (.int .i64 s.start), (.slice s.pA s.prods.length s.pc)] 26 := b1
  refine xl_op (P := Tryz.prog) (some 6) rfl rfl (ox_assign (v := (.int .i64 0)) rfl ?_)
  refine xl_nil ?_
  refine xc_seq ?_
  refine xc_region ?_
  refine xl_op (P := Tryz.prog) (some 7) rfl rfl (ox_assign (v := (.slice none 0 0)) rfl ?_)
  refine xl_nil ?_
  refine xc_seq ?_
  refine xc_seq ?_
  refine xc_region ?_
  refine xl_op (P := Tryz.prog) (some 8) rfl rfl (ox_assign (v := (.int .i64 0)) rfl ?_)
  refine xl_nil ?_
  refine xc_block ?_
  refine xc_loopN (fun m_ f_ Wx => ∃ (i : Nat) (y : List Int) (Ay : Option Addr) (cy : Nat), m_ = s.prods.length - i ∧ (i ≤ s.prods.length) ∧ (∀ e ∈ y, ∃ (j : Nat) (q : PD), e = (j : Nat) ∧ s.prods[j]? = some q ∧ q.left = nm) ∧ (y = [] → ∀ (j : Nat) (q : PD), j < i → s.prods[j]? = some q → q.left ≠ nm) ∧ (y.length ≤ i) ∧ f_ 1 = (.int .i64 nm) ∧ f_ 2 = (.int .i64 ch) ∧ f_ 3 = (.pointer (some ⟨w.heap.size, 0, none⟩)) ∧ f_ 6 = (.int .i64 0) ∧ f_ 8 = (.int .i64 ((i : Nat))) ∧ f_ 7 = (.slice Ay y.length cy) ∧ Vx.Own Wx 3 1 (.slice Ay y.length cy) y.length (y.flatMap ints) ∧ (∀ k, ((.slice Ay y.length cy) : Value).ownBlock = some k → w1.heap.size ≤ k) ∧ Ext w1 Wx) (s.prods.length) ?_ ?_
  · exact ⟨0, [], none, 0, (by omega), (by omega), (fun e he => by cases he), (fun _ j q h9 => by omega), (by simp), rfl, rfl, rfl, rfl, (by first | exact rfl | exact (congrArg (Value.int .i64) (by omega))), rfl, (Vx.Own.nil _ _ _), (fun _k _h => by simp [Value.ownBlock] at _h), (Chg.refl _ _)⟩
  · rintro m_ f1 w2 ⟨i, y, Ay, cy, hm_f1, hi, hal, hno, hyl, g1_f1, g2_f1, g3_f1, g6_f1, g8_f1, g7_f1, a0_f1, l0_f1, x1⟩
    have hx1 := x1.size
    refine xc_seq ?_
    refine xc_seq ?_
    refine xc_region ?_
    refine xl_op (P := Tryz.prog) (some 9) rfl rfl (ox_move (v := (.int .i64 ((i : Nat)))) g8_f1 ?_)
    refine xl_op (P := Tryz.prog) (some 10) rfl rfl (ox_fieldAddr (b := w.heap.size) (o := 0) tF_26_3 g3_f1 ?_)
    refine xl_op (P := Tryz.prog) (some 11) rfl rfl (ox_load (v := (.slice s.pA s.prods.length s.pc)) tA_24 rfl ((b1.ext x1).cell rfl) ?_)
    refine xl_op (P := Tryz.prog) (some 12) rfl rfl (ox_len (A := s.pA) (n := s.prods.length) (cp := s.pc) rfl tU_24 rfl ?_)
    refine xl_op (P := Tryz.prog) (some 13) rfl rfl (ox_lss (k := .i64) (a := ((i : Nat))) (b := (((s.prods.length : Nat) : Int))) rfl rfl ?_)
    refine xl_nil ?_
    refine xc_if (p := ((i : Nat) : Int) < (((s.prods.length : Nat) : Int))) rfl (fun h1 => ?_) (fun h1 => ?_)
    · skip
      refine xc_skip ?_
      refine xc_seq ?_
      refine xc_block ?_
      refine xc_seq ?_
      refine xc_region ?_
      refine xl_op (P := Tryz.prog) (some 16) rfl rfl (ox_fieldAddr (b := w.heap.size) (o := 0) tF_26_3 g3_f1 ?_)
      refine xl_op (P := Tryz.prog) (some 17) rfl rfl (ox_load (v := (.slice s.pA s.prods.length s.pc)) tA_24 rfl ((b1.ext x1).cell rfl) ?_)
      refine xl_op (P := Tryz.prog) (some 18) rfl rfl (ox_move (v := (.int .i64 ((i : Nat)))) g8_f1 ?_)
      have x2 : Ext w w2 := (Ext.trans e1 x1)
      obtain ⟨x_1, g_1, o_1, hx_1⟩ := row_may (A := s.pA) (cs := PD.cs) i PD.len (by decide) (RowA.ext hS.prods x2)
      obtain ⟨hx_2, hA_1, hc_1⟩ := hx_1 (by first | omega | (simp only [List.length_drop, List.length_replicate, List.length_set, List.length_append, List.length_map, List.length_singleton] at *; omega))
      have hfr_x_1 := (hS.fr _ (List.mem_of_getElem? hx_2)).le
      refine xl_op (P := Tryz.prog) (some 19) rfl rfl (ox_ixA (b := g_1) (o := o_1) (i := ((i : Nat))) i tE_24 hA_1 rfl rfl rfl (by omega) ?_)
      refine xl_op (P := Tryz.prog) (some 20) rfl rfl (ox_fieldAddr (b := g_1) (o := (o_1 + i * 2)) tF_37_0 rfl ?_)
      refine xl_op (P := Tryz.prog) (some 21) rfl rfl (ox_load (v := (.int .i64 x_1.left)) tA_3 rfl (CellsL.at1 hc_1 0 rfl) ?_)
      refine xl_op (P := Tryz.prog) (some 22) rfl rfl (ox_move (v := (.int .i64 nm)) g1_f1 ?_)
      refine xl_op (P := Tryz.prog) (some 23) rfl rfl (ox_eql (k := .i64) (a := x_1.left) (b := nm) rfl rfl ?_)
      refine xl_nil ?_
      refine xc_if (p := (x_1.left : Int) = nm) rfl (fun h2 => ?_) (fun h2 => ?_)
      · skip
        refine xc_region ?_
        refine xl_op (P := Tryz.prog) (some 24) rfl rfl (ox_move (v := (.slice Ay y.length cy)) g7_f1 ?_)
        refine xl_op (P := Tryz.prog) (some 25) rfl rfl (ox_move (v := (.int .i64 ((i : Nat)))) g8_f1 ?_)
        refine xl_op (P := Tryz.prog) (some 26) rfl rfl (ox_mkSlice (ps := [(0, (.int .i64 ((i : Nat))))]) (zs := #[(.int .i64 0)]) (cs := #[(.int .i64 ((i : Nat)))]) tE_27 rfl (by decide) (by kernel_rfl) (by kernel_rfl) ?_)
        intro w3 e2 z2 b2
        replace b2 : Blk w3 w2.heap.size #[(.int .i64 ((i : Nat)))] 3 := b2
        refine xl_op (P := Tryz.prog) (some 27) rfl rfl (ox_appD (l := y) (r := [((i : Nat) : Int)]) (cs := ints) rfl tE_27 rfl (by decide) ints_len ints_one (v := (.slice Ay y.length cy)) rfl rfl (m := 1) rfl (a0_f1.ext e2) b2.all (by first | omega | (simp only [List.length_append, List.length_cons, List.length_nil]; omega)) (by decide) ?_)
        intro A1 c1 w4 o1 e3 at1 hc1
        have he3 := e3.size
        have low1 : ∀ _k, (Value.slice A1 (y ++ [((i : Nat) : Int)]).length c1).ownBlock = some _k → w1.heap.size ≤ _k := fun _k _h => by rcases at1 with _e | _e <;> rw [_e] at _h; exact l0_f1 _k _h; exact (by cases _h; omega)
        refine xl_op (P := Tryz.prog) (some 7) rfl rfl (ox_assign (v := (.slice A1 ((y ++ [((i : Nat) : Int)]).length) c1)) rfl ?_)
        refine xl_nil ?_
        refine xc_region ?_
        refine xl_op (P := Tryz.prog) (some 14) rfl rfl (ox_move (v := (.int .i64 ((i : Nat)))) g8_f1 ?_)
        refine xl_op (P := Tryz.prog) (some 15) rfl rfl (ox_add64 (a := ((i : Nat))) (b := 1) rfl rfl (by omega) ?_)
        refine xl_op (P := Tryz.prog) (some 8) rfl rfl (ox_assign (v := (.int .i64 ((i : Nat) + 1))) rfl ?_)
        refine xl_nil ?_
        have x3 : Ext w1 w4 := (Chg.trans (Ext.trans x1 e2) e3 (fun b hb hl => (absurd hl (by have _h := l0_f1 b hb; omega))))
        exact ⟨rfl, s.prods.length - (i + 1), by omega, i + 1, y ++ [((i : Nat) : Int)], A1, c1, by omega, (by omega), (pick_yes hal hx_2 h2), (fun h9 => by simp at h9), (by first | omega | (simp only [List.length_append, List.length_cons, List.length_nil]; omega)), g1_f1, g2_f1, g3_f1, g6_f1, (by first | exact rfl | exact (congrArg (Value.int .i64) (by omega))), rfl, o1, low1, x3⟩
      · skip
        refine xc_skip ?_
        refine xc_region ?_
        refine xl_op (P := Tryz.prog) (some 14) rfl rfl (ox_move (v := (.int .i64 ((i : Nat)))) g8_f1 ?_)
        refine xl_op (P := Tryz.prog) (some 15) rfl rfl (ox_add64 (a := ((i : Nat))) (b := 1) rfl rfl (by omega) ?_)
        refine xl_op (P := Tryz.prog) (some 8) rfl rfl (ox_assign (v := (.int .i64 ((i : Nat) + 1))) rfl ?_)
        refine xl_nil ?_
        exact ⟨rfl, s.prods.length - (i + 1), by omega, i + 1, y, Ay, cy, by omega, (by omega), hal, (fun h9 => pick_no (hno h9) hx_2 h2), (by first | omega | (simp only [List.length_append, List.length_cons, List.length_nil]; omega)), g1_f1, g2_f1, g3_f1, g6_f1, (by first | exact rfl | exact (congrArg (Value.int .i64) (by omega))), g7_f1, a0_f1, l0_f1, x1⟩
    · skip
      refine xc_exit ?_
      refine xc_seq ?_
      refine xc_seq ?_
      refine xc_region ?_
      refine xl_op (P := Tryz.prog) (some 28) rfl rfl (ox_move (v := (.slice Ay y.length cy)) g7_f1 ?_)
      refine xl_op (P := Tryz.prog) (some 29) rfl rfl (ox_len (A := Ay) (n := y.length) (cp := cy) rfl tU_27 rfl ?_)
      refine xl_op (P := Tryz.prog) (some 30) rfl rfl (ox_eql (k := .i64) (a := (((y.length : Nat) : Int))) (b := 0) rfl rfl ?_)
      refine xl_nil ?_
      refine xc_if (p := (((y.length : Nat) : Int) : Int) = 0) rfl (fun h3 => ?_) (fun h3 => ?_)
      · skip
        refine xc_seq ?_
        refine xc_region ?_
        refine xl_op (P := Tryz.prog) (some 6) rfl rfl (ox_assign (v := (.int .i64 (-1))) rfl ?_)
        refine xl_nil ?_
        refine xc_ret ?_
        change leaves _ _ _ _ _ _ _
        refine leaves_nil (n := 45) (rs := [.tmp 6]) (vs := [(.int .i64 (-1))]) rfl ⟨⟨by decide, rfl⟩, trivial⟩ ?_
        have x4 : Ext w w2 := (Ext.trans e1 x1)
        exact ⟨_, rfl, .inl ⟨rfl, fun j q hq => hno (List.length_eq_zero_iff.1 (by omega)) j q (by have := (List.getElem?_eq_some_iff.1 hq).1; omega) hq⟩, x4⟩
      · skip
        refine xc_skip ?_
        refine xc_seq ?_
        refine xc_region ?_
        refine xl_op (P := Tryz.prog) (some 31) rfl rfl (ox_move (v := (.int .i64 ch)) g2_f1 ?_)
        refine xl_op (P := Tryz.prog) (some 32) rfl rfl (ox_move (v := (.slice Ay y.length cy)) g7_f1 ?_)
        refine xl_op (P := Tryz.prog) (some 33) rfl rfl (ox_len (A := Ay) (n := y.length) (cp := cy) rfl tU_27 rfl ?_)
        have htm1 := Int.tmod_lt_of_pos ch (b := ((y.length : Nat) : Int)) (by omega)
        have htm2 := Int.lt_tmod_of_pos ch (b := ((y.length : Nat) : Int)) (by omega)
        refine xl_op (P := Tryz.prog) (some 34) rfl rfl (ox_rem (k := .i64) (a := ch) (b := (((y.length : Nat) : Int))) rfl rfl (by omega) ?_)
        refine xl_op (P := Tryz.prog) (some 2) rfl rfl (ox_assign (v := (.int .i64 ((ch : Int).tmod (((y.length : Nat) : Int))))) rfl ?_)
        refine xl_nil ?_
        refine xc_seq ?_
        refine xc_seq ?_
        refine xc_region ?_
        refine xl_op (P := Tryz.prog) (some 35) rfl rfl (ox_move (v := (.int .i64 ((ch : Int).tmod (((y.length : Nat) : Int))))) rfl ?_)
        refine xl_op (P := Tryz.prog) (some 36) rfl rfl (ox_lss (k := .i64) (a := ((ch : Int).tmod (((y.length : Nat) : Int)))) (b := 0) rfl rfl ?_)
        refine xl_nil ?_
        refine xc_if (p := ((ch : Int).tmod (((y.length : Nat) : Int)) : Int) < 0) rfl (fun h4 => ?_) (fun h4 => ?_)
        · skip
          refine xc_region ?_
          refine xl_op (P := Tryz.prog) (some 37) rfl rfl (ox_move (v := (.int .i64 ((ch : Int).tmod (((y.length : Nat) : Int))))) rfl ?_)
          refine xl_op (P := Tryz.prog) (some 38) rfl rfl (ox_move (v := (.slice Ay y.length cy)) g7_f1 ?_)
          refine xl_op (P := Tryz.prog) (some 39) rfl rfl (ox_len (A := Ay) (n := y.length) (cp := cy) rfl tU_27 rfl ?_)
          refine xl_op (P := Tryz.prog) (some 40) rfl rfl (ox_add64 (a := ((ch : Int).tmod (((y.length : Nat) : Int)))) (b := (((y.length : Nat) : Int))) rfl rfl (by omega) ?_)
          refine xl_op (P := Tryz.prog) (some 2) rfl rfl (ox_assign (v := (.int .i64 ((ch : Int).tmod (((y.length : Nat) : Int)) + (((y.length : Nat) : Int))))) rfl ?_)
          refine xl_nil ?_
          refine xc_seq ?_
          refine xc_region ?_
          refine xl_op (P := Tryz.prog) (some 41) rfl rfl (ox_move (v := (.slice Ay y.length cy)) g7_f1 ?_)
          refine xl_op (P := Tryz.prog) (some 42) rfl rfl (ox_move (v := (.int .i64 ((ch : Int).tmod (((y.length : Nat) : Int)) + (((y.length : Nat) : Int))))) rfl ?_)
          obtain ⟨x_2, g_2, hx_3⟩ := own_may (A := Ay) (((ch : Int).tmod (((y.length : Nat) : Int)) + (((y.length : Nat) : Int))).toNat) ints_len (by decide) a0_f1
          obtain ⟨hx_4, hA_2, hc_2⟩ := hx_3 (by first | omega | (simp only [List.length_drop, List.length_replicate, List.length_set, List.length_append, List.length_map, List.length_singleton] at *; omega))
          refine xl_op (P := Tryz.prog) (some 43) rfl rfl (ox_ixA (b := g_2) (o := 0) (i := ((ch : Int).tmod (((y.length : Nat) : Int)) + (((y.length : Nat) : Int)))) (((ch : Int).tmod (((y.length : Nat) : Int)) + (((y.length : Nat) : Int))).toNat) tE_27 hA_2 rfl rfl (by omega) (by omega) ?_)
          refine xl_op (P := Tryz.prog) (some 44) rfl rfl (ox_load (v := (.int .i64 x_2)) tA_3 rfl (CellsL.at1 hc_2 0 rfl) ?_)
          refine xl_op (P := Tryz.prog) (some 6) rfl rfl (ox_assign (v := (.int .i64 x_2)) rfl ?_)
          refine xl_nil ?_
          refine xc_ret ?_
          change leaves _ _ _ _ _ _ _
          refine leaves_nil (n := 45) (rs := [.tmp 6]) (vs := [(.int .i64 x_2)]) rfl ⟨⟨by decide, rfl⟩, trivial⟩ ?_
          have x5 : Ext w w2 := (Ext.trans e1 x1)
          exact ⟨_, rfl, .inr (hal _ (List.mem_of_getElem? hx_4)), x5⟩
        · skip
          refine xc_skip ?_
          refine xc_seq ?_
          refine xc_region ?_
          refine xl_op (P := Tryz.prog) (some 41) rfl rfl (ox_move (v := (.slice Ay y.length cy)) g7_f1 ?_)
          refine xl_op (P := Tryz.prog) (some 42) rfl rfl (ox_move (v := (.int .i64 ((ch : Int).tmod (((y.length : Nat) : Int))))) rfl ?_)
          obtain ⟨x_3, g_3, hx_5⟩ := own_may (A := Ay) (((ch : Int).tmod (((y.length : Nat) : Int))).toNat) ints_len (by decide) a0_f1
          obtain ⟨hx_6, hA_3, hc_3⟩ := hx_5 (by first | omega | (simp only [List.length_drop, List.length_replicate, List.length_set, List.length_append, List.length_map, List.length_singleton] at *; omega))
          refine xl_op (P := Tryz.prog) (some 43) rfl rfl (ox_ixA (b := g_3) (o := 0) (i := ((ch : Int).tmod (((y.length : Nat) : Int)))) (((ch : Int).tmod (((y.length : Nat) : Int))).toNat) tE_27 hA_3 rfl rfl (by omega) (by omega) ?_)
          refine xl_op (P := Tryz.prog) (some 44) rfl rfl (ox_load (v := (.int .i64 x_3)) tA_3 rfl (CellsL.at1 hc_3 0 rfl) ?_)
          refine xl_op (P := Tryz.prog) (some 6) rfl rfl (ox_assign (v := (.int .i64 x_3)) rfl ?_)
          refine xl_nil ?_
          refine xc_ret ?_
          change leaves _ _ _ _ _ _ _
          refine leaves_nil (n := 45) (rs := [.tmp 6]) (vs := [(.int .i64 x_3)]) rfl ⟨⟨by decide, rfl⟩, trivial⟩ ?_
          have x6 : Ext w w2 := (Ext.trans e1 x1)
          exact ⟨_, rfl, .inr (hal _ (List.mem_of_getElem? hx_6)), x6⟩
end Go.Proofs.YtnnmdkglgnlenaaGreatDoor
set_option linter.unusedVariables false
set_option linter.unusedSimpArgs false
set_option maxRecDepth 100000
set_option maxHeartbeats 4000000
namespace Go.Proofs.YtnnmdkglgnlenaaGreatDoor
open Go Go.RowKit Go.Vx
def FrontOk (st : List ASt) (j a k : Nat) (l : List Sym) : Prop := (0 ≤ runS st 0 l) ∧ (a ≤ k → ∃ (q : Nat) (x : ASt), runS st 0 l = (q : Nat) ∧ st[q]? = some x ∧ (⟨(j : Nat), ((k - a : Nat) : Int)⟩ : Itm) ∈ x.items)
theorem name_ofB {g : GD} {st : List ASt} (h : builtG g = some st) {z : Sym} (hz : 0 ≤ z.n ∧ z.n < (g.names : Int)) (hk : z.kind = 3) : ∃ (j : Nat) (p : P2), g.prods[j]? = some p ∧ p.1 = z.n := by
  unfold builtG at h
  split at h
  · rename_i hc; exact name_has hc hz.1 hz.2
  · cases h
theorem prods_of {s : SP} {j : Nat} {p : P2} (h : s.g.prods[j]? = some p) : ∃ q : PD, s.prods[j]? = some q ∧ q.d = p := by
  have h : (s.prods.map PD.d)[j]? = some p := h
  rw [List.getElem?_map] at h
  cases hq : s.prods[j]? with
  | none => rw [hq] at h; cases h
  | some q => rw [hq] at h; exact ⟨q, rfl, Option.some.inj h⟩
theorem form_name {g : GD} {st : List ASt} (h : Aut g st) {form : List Sym} (hF : FormOk g st form) {a : Nat} {z : Sym} (hz : form[a]? = some z) (hk : z.kind = 3) (hl : ∀ (b : Nat) (u : Sym), a < b → form[b]? = some u → u.kind ≠ 3) : 0 ≤ z.n ∧ z.n < (g.names : Int) := by
  obtain ⟨_, q, x, y, _, h3, h4, h5⟩ := hF a z hz hk hl
  have hs : (behindG g y).isSome = true := by rw [h5]; rfl
  have he : bhS g y = z := by rw [bhS, h5]; rfl
  have := behind_name h.good.good (h.ok.ok x (List.mem_of_getElem? h3) y h4).1 hs (by rw [he]; exact hk)
  rw [he] at this; exact this
theorem pf_11 : plainF Tryz.prog 11 = true := by kernel_rfl
theorem pf_12 : plainF Tryz.prog 12 = true := by kernel_rfl
theorem pf_14 : plainF Tryz.prog 14 = true := by kernel_rfl
theorem derives_calls (s : SP) (cl : List Int) (cA : Option Addr) (cc : Nat) (w : World) (hS : SpR w s) (hT : TabP w) (hC : RowA w cA (cl.flatMap ints)) (hcl : cl.length ≤ 17592186044416) :
    Calls Tryz.prog 3 #[(.agg #[(.slice s.lA s.lex.length s.lc), (.slice s.nA s.names.length s.nc), (.int .i64 s.start), (.slice s.pA s.prods.length s.pc)]), (.slice cA cl.length cc)] w (Ret (fun v w' => v = .bool true ∧ Ext w w')) := by
  refine calls_xc (n := 105) (f := fun s_ => [(.agg #[(.slice s.lA s.lex.length s.lc), (.slice s.nA s.names.length s.nc), (.int .i64 s.start), (.slice s.pA s.prods.length s.pc)]), (.slice cA cl.length cc)].getD s_ undef) Tryz.func3 rfl rfl (by simp) (fun s_ => by simp) ?_
  refine xc_seq ?_
  refine xc_region ?_
  refine xl_op (P := Tryz.prog) (some 2) rfl rfl (ox_box (v := (.agg #[(.slice s.lA s.lex.length s.lc), (.slice s.nA s.names.length s.nc), (.int .i64 s.start), (.slice s.pA s.prods.length s.pc)])) rfl ?_)
  intro w1 e1 z1 b1
  replace b1 : Blk w1 w.heap.size #[(.slice s.lA s.lex.length s.lc), (.slice s.nA s.names.length s.nc), (.int .i64 s.start), (.slice s.pA s.prods.length s.pc)] 26 := b1
  refine xl_op (P := Tryz.prog) (some 4) rfl rfl (ox_assign (v := (.bool false)) rfl ?_)
  refine xl_nil ?_
  refine xc_seq ?_
  refine xc_region ?_
  refine xl_op (P := Tryz.prog) (some 14) rfl rfl (ox_loadN (vs := [(.slice s.lA s.lex.length s.lc), (.slice s.nA s.names.length s.nc), (.int .i64 s.start), (.slice s.pA s.prods.length s.pc)]) tA_26 tS_26 rfl rfl ⟨b1.cell rfl, b1.cell rfl, b1.cell rfl, b1.cell rfl, trivial⟩ ?_)
  refine xl_op (P := Tryz.prog) (some 15) rfl rfl (ox_callE (al := [(.agg #[(.slice s.lA s.lex.length s.lc), (.slice s.nA s.names.length s.nc), (.int .i64 s.start), (.slice s.pA s.prods.length s.pc)])]) pf_9 rfl (ret_mono (built_calls2 s w1 (hS.ext e1) (TabIs.ext hT e1)) ?_))
  rintro _ w2 ⟨p1, rfl, e2, hb1⟩
  have he2 := e2.size
  refine xl_op (P := Tryz.prog) (some 5) rfl rfl (ox_assign (v := (.pointer p1)) rfl ?_)
  refine xl_nil ?_
  refine xc_seq ?_
  refine xc_seq ?_
  refine xc_region ?_
  refine xl_op (P := Tryz.prog) (some 16) rfl rfl (ox_move (v := (.pointer p1)) rfl ?_)
  refine xl_op (P := Tryz.prog) (some 17) rfl rfl (ox_eqlNil (p := p1) (q := none) tU_28 rfl rfl (.inr rfl) ?_)
  refine xl_nil ?_
  refine xc_if (p := p1 = none) rfl (fun h1 => ?_) (fun h1 => ?_)
  · skip
    refine xc_seq ?_
    refine xc_region ?_
    have x1 : Ext w w2 := (Ext.trans e1 e2)
    refine xl_op (P := Tryz.prog) (some 18) rfl rfl (ox_callE (al := []) pf_10 rfl (ret_mono (known_calls w2 (TabIs.ext hT x1)) ?_))
    rintro _ w3 ⟨rfl, e3⟩
    have he3 := e3.size
    refine xl_op (P := Tryz.prog) (some 4) rfl rfl (ox_assign (v := (.bool true)) rfl ?_)
    refine xl_nil ?_
    refine xc_ret ?_
    change leaves _ _ _ _ _ _ _
    refine leaves_nil (n := 105) (rs := [.tmp 4]) (vs := [(.bool true)]) rfl ⟨⟨by decide, rfl⟩, trivial⟩ ?_
    have x2 : Ext w w3 := (Ext.trans x1 e3)
    exact ⟨rfl, x2⟩
  · skip
    obtain ⟨s1_, ba_, st, rfl, hg1_, hbu_, B_, hB_, hX_⟩ := hb1.resolve_left (fun ⟨_, h9⟩ => h1 h9)
    have haut : Aut s.g st := hg1_ ▸ hX_.aut
    have hbig := haut.big
    have hlx := built_lex hbu_
    refine xc_skip ?_
    refine xc_seq ?_
    refine xc_region ?_
    refine xl_op (P := Tryz.prog) (some 19) rfl rfl (ox_fieldAddr (b := w.heap.size) (o := 0) tF_26_2 rfl ?_)
    refine xl_op (P := Tryz.prog) (some 20) rfl rfl (ox_load (v := (.int .i64 s.start)) tA_3 rfl ((b1.ext e2).cell rfl) ?_)
    refine xl_op (P := Tryz.prog) (some 21) rfl rfl (ox_mkStruct (ps := [(0, (.int .i64 3)), (1, (.int .i64 s.start))]) (cs := #[(.int .i64 3), (.int .i64 s.start)]) tZ_32 tP_32 rfl (by kernel_rfl) ?_)
    refine xl_op (P := Tryz.prog) (some 22) rfl rfl (ox_mkSlice (ps := [(0, (.agg #[(.int .i64 3), (.int .i64 s.start)]))]) (zs := #[(.int .i64 0), (.int .i64 0)]) (cs := #[(.int .i64 3), (.int .i64 s.start)]) tE_33 rfl (by decide) (by kernel_rfl) (by kernel_rfl) ?_)
    intro w4 e4 z2 b2
    replace b2 : Blk w4 w2.heap.size #[(.int .i64 3), (.int .i64 s.start)] 32 := b2
    refine xl_op (P := Tryz.prog) (some 6) rfl rfl (ox_assign (v := (.slice (some ⟨w2.heap.size, 0, none⟩) 1 1)) rfl ?_)
    refine xl_nil ?_
    refine xc_seq ?_
    refine xc_seq ?_
    refine xc_region ?_
    refine xl_op (P := Tryz.prog) (some 7) rfl rfl (ox_assign (v := (.int .i64 0)) rfl ?_)
    refine xl_nil ?_
    refine xc_block ?_
    refine xc_loopN (fun m_ f_ Wx => ∃ (i : Nat) (form : List Sym) (fA : Option Addr) (fc : Nat), m_ = cl.length - i ∧ (i ≤ cl.length) ∧ (FormOk s.g st form) ∧ (form.length ≤ 500) ∧ f_ 1 = (.slice cA cl.length cc) ∧ f_ 2 = (.pointer (some ⟨w.heap.size, 0, none⟩)) ∧ f_ 5 = (.pointer (some ⟨ba_, 0, none⟩)) ∧ f_ 6 = (.slice fA form.length fc) ∧ f_ 7 = (.int .i64 ((i : Nat))) ∧ (Vx.Own Wx 32 2 (.slice fA form.length fc) form.length (form.flatMap Sym.cs)) ∧ Ext w4 Wx) (cl.length) ?_ ?_
    · exact ⟨0, [(⟨3, s.start⟩ : Sym)], (some ⟨w2.heap.size, 0, none⟩), 1, (by omega), (by omega), (form_start haut), (by simp), rfl, rfl, rfl, rfl, (by first | exact rfl | exact (congrArg (Value.int .i64) (by omega))), (Vx.Own.lit (n := 1) (sz := 2) b2 rfl (by decide)), (Chg.refl _ _)⟩
    · rintro m_ f1 w5 ⟨i, form, fA, fc, hm_f1, hi, hF, hfl, g1_f1, g2_f1, g5_f1, g6_f1, g7_f1, t0_f1, x3⟩
      have hx3 := x3.size
      have hfcap := Own.capn t0_f1
      refine xc_seq ?_
      refine xc_seq ?_
      refine xc_region ?_
      refine xl_op (P := Tryz.prog) (some 23) rfl rfl (ox_move (v := (.int .i64 ((i : Nat)))) g7_f1 ?_)
      refine xl_op (P := Tryz.prog) (some 24) rfl rfl (ox_move (v := (.slice cA cl.length cc)) g1_f1 ?_)
      refine xl_op (P := Tryz.prog) (some 25) rfl rfl (ox_len (A := cA) (n := cl.length) (cp := cc) rfl tU_27 rfl ?_)
      refine xl_op (P := Tryz.prog) (some 26) rfl rfl (ox_lss (k := .i64) (a := ((i : Nat))) (b := (((cl.length : Nat) : Int))) rfl rfl ?_)
      refine xl_op (P := Tryz.prog) (some 27) rfl rfl (ox_move (v := (.bool (decide (((i : Nat) : Int) < (((cl.length : Nat) : Int)))))) rfl ?_)
      by_cases h2 : ((i : Nat) : Int) < (((cl.length : Nat) : Int))
      · skip
        refine xl_opg (P := Tryz.prog) (some 28) (j := 4) (b := true) rfl rfl (congrArg some (decide_eq_true h2)) (ox_move (v := (.slice fA form.length fc)) g6_f1 ?_)
        refine xl_opg (P := Tryz.prog) (some 29) (j := 4) (b := true) rfl rfl (congrArg some (decide_eq_true h2)) (ox_len (A := fA) (n := form.length) (cp := fc) rfl tU_33 rfl ?_)
        refine xl_opg (P := Tryz.prog) (some 30) (j := 4) (b := true) rfl rfl (congrArg some (decide_eq_true h2)) (ox_lss (k := .i64) (a := (((form.length : Nat) : Int))) (b := 400) rfl rfl ?_)
        refine xl_op (P := Tryz.prog) (some 31) rfl rfl (ox_pick_t (v := (.bool (decide ((((form.length : Nat) : Int) : Int) < 400)))) (congrArg Value.bool (decide_eq_true h2)) rfl ?_)
        refine xl_nil ?_
        refine xc_if (p := (((form.length : Nat) : Int) : Int) < 400) rfl (fun h3 => ?_) (fun h3 => ?_)
        · skip
          refine xc_skip ?_
          refine xc_seq ?_
          refine xc_block ?_
          refine xc_seq ?_
          refine xc_region ?_
          refine xl_op (P := Tryz.prog) (some 34) rfl rfl (ox_move (v := (.slice fA form.length fc)) g6_f1 ?_)
          refine xl_op (P := Tryz.prog) (some 35) rfl rfl (ox_callE (al := [(.slice fA form.length fc)]) pf_11 rfl (ret_mono (last_calls form fA fc w5 (Own.rowO t0_f1) (by omega)) ?_))
          rintro _ w6 ⟨la, rfl, hla, e5⟩
          have he5 := e5.size
          refine xl_op (P := Tryz.prog) (some 8) rfl rfl (ox_assign (v := (.int .i64 la)) rfl ?_)
          refine xl_nil ?_
          refine xc_seq ?_
          refine xc_seq ?_
          refine xc_region ?_
          refine xl_op (P := Tryz.prog) (some 36) rfl rfl (ox_move (v := (.int .i64 la)) rfl ?_)
          refine xl_op (P := Tryz.prog) (some 37) rfl rfl (ox_lss (k := .i64) (a := la) (b := 0) rfl rfl ?_)
          refine xl_nil ?_
          refine xc_if (p := (la : Int) < 0) rfl (fun h4 => ?_) (fun h4 => ?_)
          · skip
            refine xc_exit ?_
            refine xc_seq ?_
            refine xc_region ?_
            have x4 : Ext w w6 := (Ext.trans (Ext.trans (Ext.trans (Ext.trans e1 e2) e4) x3) e5)
            refine xl_op (P := Tryz.prog) (some 104) rfl rfl (ox_callE (al := []) pf_10 rfl (ret_mono (known_calls w6 (TabIs.ext hT x4)) ?_))
            rintro _ w7 ⟨rfl, e6⟩
            have he6 := e6.size
            refine xl_op (P := Tryz.prog) (some 4) rfl rfl (ox_assign (v := (.bool true)) rfl ?_)
            refine xl_nil ?_
            refine xc_ret ?_
            change leaves _ _ _ _ _ _ _
            refine leaves_nil (n := 105) (rs := [.tmp 4]) (vs := [(.bool true)]) rfl ⟨⟨by decide, rfl⟩, trivial⟩ ?_
            have x5 : Ext w w7 := (Ext.trans x4 e6)
            exact ⟨rfl, x5⟩
          · skip
            obtain ⟨a, z, rfl, hz, hzk, hzl⟩ := hla.resolve_left (fun ⟨h9, _⟩ => by omega)
            clear hla
            have hal : a < form.length := (List.getElem?_eq_some_iff.1 hz).1
            refine xc_skip ?_
            refine xc_seq ?_
            refine xc_regionE [10] (fun W_ => Chg (fun _ => False) w6 W_) hmix ?_
            intro w8 e7 z3
            have hS1 : Chg (fun _ => False) w6 w8 := Ext.to e7
            refine xd_take 0 (some 38) rfl rfl (by kernel_rfl) (v := (.agg #[(.slice s.lA s.lex.length s.lc), (.slice s.nA s.names.length s.nc), (.int .i64 s.start), (.slice s.pA s.prods.length s.pc)])) (.inl ⟨rfl, fun W_ hW_ => ox_loadN (vs := [(.slice s.lA s.lex.length s.lc), (.slice s.nA s.names.length s.nc), (.int .i64 s.start), (.slice s.pA s.prods.length s.pc)]) tA_26 tS_26 g2_f1 rfl ⟨(((((b1.ext e2).ext e4).ext x3).ext e5).ext hW_).cell rfl, (((((b1.ext e2).ext e4).ext x3).ext e5).ext hW_).cell rfl, (((((b1.ext e2).ext e4).ext x3).ext e5).ext hW_).cell rfl, (((((b1.ext e2).ext e4).ext x3).ext e5).ext hW_).cell rfl, trivial⟩ ⟨rfl, rfl⟩⟩) hS1 ?_
            refine xd_pure 1 (some 39) rfl rfl (by kernel_rfl) (v := (.slice fA form.length fc)) (.inl ⟨rfl, fun W_ hW_ => ox_move (v := (.slice fA form.length fc)) g6_f1 ⟨rfl, rfl⟩⟩) ?_
            refine xd_pure 2 (some 40) rfl rfl (by kernel_rfl) (v := (.int .i64 ((a : Nat)))) (.inl ⟨rfl, fun W_ hW_ => ox_move (v := (.int .i64 ((a : Nat)))) rfl ⟨rfl, rfl⟩⟩) ?_
            obtain ⟨x_1, g_1, hx_1⟩ := own_may (A := fA) a Sym.len (by decide) (t0_f1.ext e5)
            obtain ⟨hx_2, hA_1, hc_1⟩ := hx_1 (by first | omega | (simp only [List.length_drop, List.length_replicate, List.length_set, List.length_append, List.length_map, List.length_singleton] at *; omega))
            refine xd_pure 3 (some 41) rfl rfl (by kernel_rfl) (v := (.pointer (some ⟨g_1, 0 + a * 2, none⟩))) (.inl ⟨rfl, fun W_ hW_ => ox_ixA (b := g_1) (o := 0) (i := ((a : Nat))) a tE_33 hA_1 rfl rfl rfl (by omega) ⟨rfl, rfl⟩⟩) ?_
            refine xd_pure 4 (some 42) rfl rfl (by kernel_rfl) (v := (.pointer (some ⟨g_1, 0 + a * 2 + 1, none⟩))) (.inl ⟨rfl, fun W_ hW_ => ox_fieldAddr (b := g_1) (o := (0 + a * 2)) tF_32_1 rfl ⟨rfl, rfl⟩⟩) ?_
            refine xd_take 5 (some 43) rfl rfl (by kernel_rfl) (v := (.int .i64 x_1.n)) (.inl ⟨rfl, fun W_ hW_ => ox_load (v := (.int .i64 x_1.n)) tA_3 rfl (CellsL.at1 (CellsL.keep hW_ not_false hc_1) 1 rfl) ⟨rfl, rfl⟩⟩) hS1 ?_
            refine xd_pure 6 (some 44) rfl rfl (by kernel_rfl) (v := (.slice cA cl.length cc)) (.inl ⟨rfl, fun W_ hW_ => ox_move (v := (.slice cA cl.length cc)) g1_f1 ⟨rfl, rfl⟩⟩) ?_
            refine xd_pure 7 (some 45) rfl rfl (by kernel_rfl) (v := (.int .i64 ((i : Nat)))) (.inl ⟨rfl, fun W_ hW_ => ox_move (v := (.int .i64 ((i : Nat)))) g7_f1 ⟨rfl, rfl⟩⟩) ?_
            have x6 : Ext w w6 := (Ext.trans (Ext.trans (Ext.trans (Ext.trans e1 e2) e4) x3) e5)
            obtain ⟨x_2, g_2, o_2, hx_3⟩ := row_may (A := cA) (cs := ints) i ints_len (by decide) (RowA.ext hC x6)
            obtain ⟨hx_4, hA_2, hc_2⟩ := hx_3 (by first | omega | (simp only [List.length_drop, List.length_replicate, List.length_set, List.length_append, List.length_map, List.length_singleton] at *; omega))
            refine xd_pure 8 (some 46) rfl rfl (by kernel_rfl) (v := (.pointer (some ⟨g_2, o_2 + i * 1, none⟩))) (.inl ⟨rfl, fun W_ hW_ => ox_ixA (b := g_2) (o := o_2) (i := ((i : Nat))) i tE_27 hA_2 rfl rfl rfl (by omega) ⟨rfl, rfl⟩⟩) ?_
            refine xd_take 9 (some 47) rfl rfl (by kernel_rfl) (v := (.int .i64 x_2)) (.inl ⟨rfl, fun W_ hW_ => ox_load (v := (.int .i64 x_2)) tA_3 rfl (CellsL.at1 (CellsL.keep hW_ not_false hc_2) 0 rfl) ⟨rfl, rfl⟩⟩) hS1 ?_
            have hxz : x_1 = z := Option.some.inj (hx_2.symm.trans hz)
            have x7 : Ext w w8 := (Ext.trans x6 e7)
            refine xd_one 10 (some 48) rfl rfl (by kernel_rfl) rfl (ox_callE (al := [(.agg #[(.slice s.lA s.lex.length s.lc), (.slice s.nA s.names.length s.nc), (.int .i64 s.start), (.slice s.pA s.prods.length s.pc)]), (.int .i64 x_1.n), (.int .i64 x_2)]) pf_12 rfl (ret_mono (pick_calls s x_1.n x_2 w8 (hS.ext x7)) ?_))
            rintro _ w9 ⟨pk, rfl, hpk, e8⟩
            have he8 := e8.size
            refine ⟨.inl (by decide), ?_⟩
            refine xd_pure 11 (some 9) rfl rfl (by kernel_rfl) (v := (.int .i64 pk)) (.inl ⟨rfl, fun W_ hW_ => ox_assign (v := (.int .i64 pk)) rfl ⟨rfl, rfl⟩⟩) ?_
            refine xd_done (by kernel_rfl) ?_ _
            refine xc_seq ?_
            refine xc_seq ?_
            refine xc_region ?_
            refine xl_op (P := Tryz.prog) (some 49) rfl rfl (ox_move (v := (.int .i64 pk)) rfl ?_)
            refine xl_op (P := Tryz.prog) (some 50) rfl rfl (ox_lss (k := .i64) (a := pk) (b := 0) rfl rfl ?_)
            refine xl_nil ?_
            refine xc_if (p := (pk : Int) < 0) rfl (fun h5 => ?_) (fun h5 => ?_)
            · skip
              exfalso
              rcases hpk with ⟨_, h9⟩ | ⟨j, q, h9, _, _⟩
              · obtain ⟨j, p, h8, h7⟩ := name_ofB hbu_ (z := z) (form_name haut hF hz hzk hzl) hzk
                obtain ⟨q, h6, rfl⟩ := prods_of h8
                exact h9 j q h6 (by rw [hxz]; exact h7)
              · omega
            · skip
              obtain ⟨j, q, rfl, hj, hql⟩ := hpk.resolve_left (fun ⟨h9, _⟩ => by omega)
              clear hpk
              have hjl : j < s.prods.length := (List.getElem?_eq_some_iff.1 hj).1
              refine xc_skip ?_
              refine xc_seq ?_
              refine xc_region ?_
              refine xl_op (P := Tryz.prog) (some 51) rfl rfl (ox_fieldAddr (b := w.heap.size) (o := 0) tF_26_3 g2_f1 ?_)
              have q1 := (((((b1.ext e2).ext e4).ext x3).ext e5).ext e7)
              refine xl_op (P := Tryz.prog) (some 52) rfl rfl (ox_load (v := (.slice s.pA s.prods.length s.pc)) tA_24 rfl ((q1.ext e8).cell rfl) ?_)
              refine xl_op (P := Tryz.prog) (some 53) rfl rfl (ox_move (v := (.int .i64 ((j : Nat)))) rfl ?_)
              have x8 : Ext w w9 := (Ext.trans x7 e8)
              obtain ⟨x_3, g_3, o_3, hx_5⟩ := row_may (A := s.pA) (cs := PD.cs) j PD.len (by decide) (RowA.ext hS.prods x8)
              obtain ⟨hx_6, hA_3, hc_3⟩ := hx_5 (by first | omega | (simp only [List.length_drop, List.length_replicate, List.length_set, List.length_append, List.length_map, List.length_singleton] at *; omega))
              have hfr_x_3 := (hS.fr _ (List.mem_of_getElem? hx_6)).le
              have hjd : s.g.prods[j]? = some x_3.d := map_get hx_6
              have hqp : x_3.d.1 = z.n := by have h9 : q = x_3 := Option.some.inj (hj.symm.trans hx_6); rw [← h9, ← hxz]; exact hql
              have hr16 : x_3.right.length ≤ 16 := haut.good.rights x_3.d (List.mem_of_getElem? hjd)
              refine xl_op (P := Tryz.prog) (some 54) rfl rfl (ox_ixA (b := g_3) (o := o_3) (i := ((j : Nat))) j tE_24 hA_3 rfl rfl rfl (by omega) ?_)
              refine xl_op (P := Tryz.prog) (some 55) rfl rfl (ox_fieldAddr (b := g_3) (o := (o_3 + j * 2)) tF_37_1 rfl ?_)
              refine xl_op (P := Tryz.prog) (some 56) rfl rfl (ox_load (v := (.slice x_3.rA x_3.right.length x_3.rc)) tA_33 rfl (CellsL.at1 hc_3 1 rfl) ?_)
              refine xl_op (P := Tryz.prog) (some 10) rfl rfl (ox_assign (v := (.slice x_3.rA x_3.right.length x_3.rc)) rfl ?_)
              refine xl_nil ?_
              refine xc_seq ?_
              refine xc_region ?_
              refine xl_op (P := Tryz.prog) (some 11) rfl rfl (ox_assign (v := (.slice none 0 0)) rfl ?_)
              refine xl_nil ?_
              refine xc_seq ?_
              refine xc_region ?_
              refine xl_op (P := Tryz.prog) (some 57) rfl rfl (ox_move (v := (.slice none 0 0)) rfl ?_)
              refine xl_op (P := Tryz.prog) (some 58) rfl rfl (ox_move (v := (.slice fA form.length fc)) g6_f1 ?_)
              refine xl_op (P := Tryz.prog) (some 59) rfl rfl (ox_move (v := (.int .i64 ((a : Nat)))) rfl ?_)
              refine xl_op (P := Tryz.prog) (some 60) rfl rfl (ox_sliceToN (A := fA) (cp := fc) (i := ((a : Nat))) a tE_33 rfl rfl (by omega) (by omega) (by omega) ?_)
              refine xl_op (P := Tryz.prog) (some 61) rfl rfl (ox_appR (l := ([])) (r := (form.take a)) (cs := Sym.cs) rfl tE_33 rfl (by decide) Sym.len Sym.one (v := (.slice none 0 0)) rfl (by rw [List.length_take, Nat.min_eq_left (by omega)]; exact rfl) (Vx.Own.nil w9 32 2) (RowA.takeD (Own.rowO (((t0_f1.ext e5).ext e7).ext e8)) Sym.len _) (by simp only [List.length_append, List.length_take, List.length_drop, List.length_cons, List.length_nil]; omega) (by decide) ?_)
              intro A1 c1 w10 o1 e9 at1 hc1
              have he9 := e9.size
              replace at1 : (Value.slice A1 (form.take a).length c1).ownBlock = ((.slice none 0 0) : Value).ownBlock ∨ (Value.slice A1 (form.take a).length c1).ownBlock = some w9.heap.size := at1
              replace o1 : Vx.Own w10 32 2 (.slice A1 (form.take a).length c1) (form.take a).length ((form.take a).flatMap Sym.cs) := o1
              have low1 : ∀ _k, (Value.slice A1 (form.take a).length c1).ownBlock = some _k → w9.heap.size ≤ _k := fun _k _h => by rcases at1 with _e | _e <;> rw [_e] at _h; exact (fun _k _h => by simp [Value.ownBlock] at _h) _k _h; exact (by cases _h; omega)
              refine xl_op (P := Tryz.prog) (some 11) rfl rfl (ox_assign (v := (.slice A1 ((form.take a).length) c1)) rfl ?_)
              refine xl_nil ?_
              refine xc_seq ?_
              refine xc_region ?_
              refine xl_op (P := Tryz.prog) (some 62) rfl rfl (ox_move (v := (.slice A1 ((form.take a).length) c1)) rfl ?_)
              refine xl_op (P := Tryz.prog) (some 63) rfl rfl (ox_move (v := (.slice x_3.rA x_3.right.length x_3.rc)) rfl ?_)
              have x9 : Ext w w10 := (Chg.trans x8 e9 (fun b hb hl => (by simp [Value.ownBlock] at hb)))
              refine xl_op (P := Tryz.prog) (some 64) rfl rfl (ox_appR (l := (form.take a)) (r := x_3.right) (cs := Sym.cs) rfl tE_33 rfl (by decide) Sym.len Sym.one (v := (.slice A1 ((form.take a).length) c1)) rfl rfl o1 (RowA.ext ((hS.right _ (List.mem_of_getElem? hx_6))) x9) (by simp only [List.length_append, List.length_take, List.length_drop, List.length_cons, List.length_nil]; omega) (by decide) ?_)
              intro A2 c2 w11 o2 e10 at2 hc2
              have he10 := e10.size
              have low2 : ∀ _k, (Value.slice A2 ((form.take a) ++ x_3.right).length c2).ownBlock = some _k → w9.heap.size ≤ _k := fun _k _h => by rcases at2 with _e | _e <;> rw [_e] at _h; exact low1 _k _h; exact (by cases _h; omega)
              refine xl_op (P := Tryz.prog) (some 11) rfl rfl (ox_assign (v := (.slice A2 (((form.take a) ++ x_3.right).length) c2)) rfl ?_)
              refine xl_nil ?_
              refine xc_seq ?_
              refine xc_region ?_
              refine xl_op (P := Tryz.prog) (some 65) rfl rfl (ox_move (v := (.slice A2 (((form.take a) ++ x_3.right).length) c2)) rfl ?_)
              refine xl_op (P := Tryz.prog) (some 66) rfl rfl (ox_move (v := (.slice fA form.length fc)) g6_f1 ?_)
              refine xl_op (P := Tryz.prog) (some 67) rfl rfl (ox_move (v := (.int .i64 ((a : Nat)))) rfl ?_)
              refine xl_op (P := Tryz.prog) (some 68) rfl rfl (ox_add64 (a := ((a : Nat))) (b := 1) rfl rfl (by omega) ?_)
              have q2 := ((((t0_f1.ext e5).ext e7).ext e8).keep e9 (fun _k _hk _hh => by simp [Value.ownBlock] at _hh))
              have q3 := (q2.keep e10 (fun _k _hk _hh => by have _a := t0_f1.lt _k _hk; have _b := low1 _k _hh; omega))
              have hfc := Own.capn q3
              refine xl_op (P := Tryz.prog) (some 69) rfl rfl (ox_sliceFromV (A := fA) (n := form.length) (cp := fc) (i := ((a : Nat) + 1)) ((a + 1)) tE_33 rfl rfl (by omega) (by omega) ?_)
              refine xl_op (P := Tryz.prog) (some 70) rfl rfl (ox_appR (l := ((form.take a) ++ x_3.right)) (r := (form.drop (a + 1))) (cs := Sym.cs) rfl tE_33 rfl (by decide) Sym.len Sym.one (v := (.slice A2 (((form.take a) ++ x_3.right).length) c2)) rfl (by rw [List.length_drop]; exact rfl) o2 (RowA.dropD Sym.len (by omega) hfc (Own.rowO q3)) (by simp only [List.length_append, List.length_take, List.length_drop, List.length_cons, List.length_nil]; omega) (by decide) ?_)
              intro A3 c3 w12 o3 e11 at3 hc3
              have he11 := e11.size
              have low3 : ∀ _k, (Value.slice A3 (((form.take a) ++ x_3.right) ++ (form.drop (a + 1))).length c3).ownBlock = some _k → w9.heap.size ≤ _k := fun _k _h => by rcases at3 with _e | _e <;> rw [_e] at _h; exact low2 _k _h; exact (by cases _h; omega)
              refine xl_op (P := Tryz.prog) (some 11) rfl rfl (ox_assign (v := (.slice A3 ((((form.take a) ++ x_3.right) ++ (form.drop (a + 1))).length) c3)) rfl ?_)
              refine xl_nil ?_
              refine xc_seq ?_
              obtain ⟨nx, hnx⟩ : ∃ l, l = ((form.take a) ++ x_3.right) ++ (form.drop (a + 1)) := ⟨_, rfl⟩
              have hnxl : nx.length = a + x_3.right.length + (form.length - (a + 1)) := by rw [hnx]; simp only [List.length_append, List.length_take, List.length_drop]; omega
              have hnc : nx.length ≤ c3 := by rw [hnx]; exact Own.capn o3
              refine xc_region ?_
              refine xl_op (P := Tryz.prog) (some 71) rfl rfl (ox_move (v := (.slice A3 ((((form.take a) ++ x_3.right) ++ (form.drop (a + 1))).length) c3)) rfl ?_)
              refine xl_op (P := Tryz.prog) (some 6) rfl rfl (ox_assign (v := (.slice A3 ((((form.take a) ++ x_3.right) ++ (form.drop (a + 1))).length) c3)) rfl ?_)
              refine xl_nil ?_
              refine xc_seq ?_
              refine xc_region ?_
              refine xl_op (P := Tryz.prog) (some 12) rfl rfl (ox_assign (v := (.int .i64 0)) rfl ?_)
              refine xl_nil ?_
              refine xc_block ?_
              refine xc_loopN (fun m_ f_ Wx => ∃ (k : Nat), m_ = a + x_3.right.length + 1 - k ∧ (k ≤ a + x_3.right.length + 1) ∧ f_ 1 = (.slice cA cl.length cc) ∧ f_ 2 = (.pointer (some ⟨w.heap.size, 0, none⟩)) ∧ f_ 5 = (.pointer (some ⟨ba_, 0, none⟩)) ∧ f_ 6 = (.slice A3 ((((form.take a) ++ x_3.right) ++ (form.drop (a + 1))).length) c3) ∧ f_ 7 = (.int .i64 ((i : Nat))) ∧ f_ 23 = (.int .i64 ((i : Nat))) ∧ f_ 24 = (.slice cA cl.length cc) ∧ f_ 25 = (.int .i64 (((cl.length : Nat) : Int))) ∧ f_ 26 = (.bool (decide (((i : Nat) : Int) < (((cl.length : Nat) : Int))))) ∧ f_ 27 = (.bool (decide (((i : Nat) : Int) < (((cl.length : Nat) : Int))))) ∧ f_ 28 = (.slice fA form.length fc) ∧ f_ 29 = (.int .i64 (((form.length : Nat) : Int))) ∧ f_ 30 = (.bool (decide ((((form.length : Nat) : Int) : Int) < 400))) ∧ f_ 31 = (.bool (decide ((((form.length : Nat) : Int) : Int) < 400))) ∧ f_ 34 = (.slice fA form.length fc) ∧ f_ 35 = (.int .i64 ((a : Nat))) ∧ f_ 8 = (.int .i64 ((a : Nat))) ∧ f_ 36 = (.int .i64 ((a : Nat))) ∧ f_ 38 = (.agg #[(.slice s.lA s.lex.length s.lc), (.slice s.nA s.names.length s.nc), (.int .i64 s.start), (.slice s.pA s.prods.length s.pc)]) ∧ f_ 39 = (.slice fA form.length fc) ∧ f_ 40 = (.int .i64 ((a : Nat))) ∧ f_ 41 = (.pointer (some ⟨g_1, 0 + a * 2, none⟩)) ∧ f_ 42 = (.pointer (some ⟨g_1, 0 + a * 2 + 1, none⟩)) ∧ f_ 43 = (.int .i64 x_1.n) ∧ f_ 44 = (.slice cA cl.length cc) ∧ f_ 45 = (.int .i64 ((i : Nat))) ∧ f_ 46 = (.pointer (some ⟨g_2, o_2 + i * 1, none⟩)) ∧ f_ 47 = (.int .i64 x_2) ∧ f_ 48 = (.int .i64 ((j : Nat))) ∧ f_ 9 = (.int .i64 ((j : Nat))) ∧ f_ 49 = (.int .i64 ((j : Nat))) ∧ f_ 51 = (.pointer (some ⟨w.heap.size, 3, none⟩)) ∧ f_ 52 = (.slice s.pA s.prods.length s.pc) ∧ f_ 53 = (.int .i64 ((j : Nat))) ∧ f_ 54 = (.pointer (some ⟨g_3, o_3 + j * 2, none⟩)) ∧ f_ 55 = (.pointer (some ⟨g_3, o_3 + j * 2 + 1, none⟩)) ∧ f_ 56 = (.slice x_3.rA x_3.right.length x_3.rc) ∧ f_ 10 = (.slice x_3.rA x_3.right.length x_3.rc) ∧ f_ 11 = (.slice A3 ((((form.take a) ++ x_3.right) ++ (form.drop (a + 1))).length) c3) ∧ f_ 57 = (.slice none 0 0) ∧ f_ 58 = (.slice fA form.length fc) ∧ f_ 59 = (.int .i64 ((a : Nat))) ∧ f_ 60 = (.slice fA a fc) ∧ f_ 61 = (.slice A1 ((form.take a).length) c1) ∧ f_ 62 = (.slice A1 ((form.take a).length) c1) ∧ f_ 63 = (.slice x_3.rA x_3.right.length x_3.rc) ∧ f_ 64 = (.slice A2 (((form.take a) ++ x_3.right).length) c2) ∧ f_ 65 = (.slice A2 (((form.take a) ++ x_3.right).length) c2) ∧ f_ 66 = (.slice fA form.length fc) ∧ f_ 67 = (.int .i64 ((a : Nat))) ∧ f_ 68 = (.int .i64 ((a : Nat) + 1)) ∧ f_ 69 = (.slice ((sfA fA fc ((a + 1)) 2)) ((form.length - ((a + 1)))) ((fc - ((a + 1))))) ∧ f_ 70 = (.slice A3 ((((form.take a) ++ x_3.right) ++ (form.drop (a + 1))).length) c3) ∧ f_ 71 = (.slice A3 ((((form.take a) ++ x_3.right) ++ (form.drop (a + 1))).length) c3) ∧ f_ 12 = (.int .i64 ((k : Nat))) ∧ Ext w12 Wx) (a + x_3.right.length + 1) ?_ ?_
              · exact ⟨0, (by omega), (by omega), g1_f1, g2_f1, g5_f1, rfl, g7_f1, rfl, rfl, rfl, rfl, rfl, rfl, rfl, rfl, rfl, rfl, rfl, rfl, rfl, rfl, rfl, rfl, rfl, rfl, rfl, rfl, rfl, rfl, rfl, rfl, rfl, rfl, rfl, rfl, rfl, rfl, rfl, rfl, rfl, rfl, rfl, rfl, rfl, rfl, rfl, rfl, rfl, rfl, rfl, rfl, rfl, rfl, rfl, rfl, rfl, (by first | exact rfl | exact (congrArg (Value.int .i64) (by omega))), (Chg.refl _ _)⟩
              · rintro m_ f2 w13 ⟨k, hm_f2, hk, g1_f2, g2_f2, g5_f2, g6_f2, g7_f2, g23_f2, g24_f2, g25_f2, g26_f2, g27_f2, g28_f2, g29_f2, g30_f2, g31_f2, g34_f2, g35_f2, g8_f2, g36_f2, g38_f2, g39_f2, g40_f2, g41_f2, g42_f2, g43_f2, g44_f2, g45_f2, g46_f2, g47_f2, g48_f2, g9_f2, g49_f2, g51_f2, g52_f2, g53_f2, g54_f2, g55_f2, g56_f2, g10_f2, g11_f2, g57_f2, g58_f2, g59_f2, g60_f2, g61_f2, g62_f2, g63_f2, g64_f2, g65_f2, g66_f2, g67_f2, g68_f2, g69_f2, g70_f2, g71_f2, g12_f2, x10⟩
                have hx10 := x10.size
                refine xc_seq ?_
                refine xc_seq ?_
                refine xc_region ?_
                refine xl_op (P := Tryz.prog) (some 72) rfl rfl (ox_move (v := (.int .i64 ((k : Nat)))) g12_f2 ?_)
                refine xl_op (P := Tryz.prog) (some 73) rfl rfl (ox_move (v := (.int .i64 ((a : Nat)))) g8_f2 ?_)
                refine xl_op (P := Tryz.prog) (some 74) rfl rfl (ox_move (v := (.slice x_3.rA x_3.right.length x_3.rc)) g10_f2 ?_)
                refine xl_op (P := Tryz.prog) (some 75) rfl rfl (ox_len (A := x_3.rA) (n := x_3.right.length) (cp := x_3.rc) rfl tU_33 rfl ?_)
                refine xl_op (P := Tryz.prog) (some 76) rfl rfl (ox_add64 (a := ((a : Nat))) (b := (((x_3.right.length : Nat) : Int))) rfl rfl (by omega) ?_)
                refine xl_op (P := Tryz.prog) (some 77) rfl rfl (ox_leq (k := .i64) (a := ((k : Nat))) (b := ((a : Nat) + (((x_3.right.length : Nat) : Int)))) rfl rfl ?_)
                refine xl_nil ?_
                refine xc_if (p := ((k : Nat) : Int) ≤ ((a : Nat) + (((x_3.right.length : Nat) : Int)))) rfl (fun h6 => ?_) (fun h6 => ?_)
                · skip
                  refine xc_skip ?_
                  refine xc_seq ?_
                  refine xc_block ?_
                  refine xc_seq ?_
                  refine xc_region ?_
                  refine xl_op (P := Tryz.prog) (some 80) rfl rfl (ox_move (v := (.pointer (some ⟨ba_, 0, none⟩))) g5_f2 ?_)
                  refine xl_op (P := Tryz.prog) (some 81) rfl rfl (ox_move (v := (.slice A3 ((((form.take a) ++ x_3.right) ++ (form.drop (a + 1))).length) c3)) g6_f2 ?_)
                  refine xl_op (P := Tryz.prog) (some 82) rfl rfl (ox_move (v := (.int .i64 ((k : Nat)))) g12_f2 ?_)
                  refine xl_op (P := Tryz.prog) (some 83) rfl rfl (ox_sliceToN (A := A3) (cp := c3) (i := ((k : Nat))) k tE_33 rfl rfl (by omega) (by omega) (by omega) ?_)
                  have hff : FrontOk st j a k (nx.take k) := by rw [hnx]; exact form_fronts haut hF hz hzk hzl hjd hqp k (by show k ≤ a + x_3.right.length; omega)
                  have hff1 := hff.1
                  have hkn : k ≤ (((form.take a) ++ x_3.right) ++ (form.drop (a + 1))).length := by rw [← hnx]; omega
                  have x11 : Ext w2 w13 := (Ext.trans (Chg.trans (Chg.trans (Chg.trans (Ext.trans (Ext.trans (Ext.trans (Ext.trans e4 x3) e5) e7) e8) e9 (fun b hb hl => (by simp [Value.ownBlock] at hb))) e10 (fun b hb hl => (absurd hl (by have _h := low1 b hb; omega)))) e11 (fun b hb hl => (absurd hl (by have _h := low2 b hb; omega)))) x10)
                  refine xl_op (P := Tryz.prog) (some 84) rfl rfl (ox_callE (al := [(.pointer (some ⟨ba_, 0, none⟩)), (.slice A3 k c3)]) pf_13 rfl (ret_mono ((by have h9 := autx_run (AutX.ext hX_ x11) ((((form.take a) ++ x_3.right) ++ (form.drop (a + 1))).take k) A3 c3 (RowA.takeD (Own.rowO (o3.ext x10)) Sym.len _) (by rw [List.length_take]; omega); rw [List.length_take, Nat.min_eq_left hkn, ← hnx] at h9; exact h9)) ?_))
                  rintro _ w14 ⟨rfl, e12⟩
                  have he12 := e12.size
                  refine xl_op (P := Tryz.prog) (some 13) rfl rfl (ox_assign (v := (.int .i64 (runS st 0 (nx.take k)))) rfl ?_)
                  refine xl_nil ?_
                  refine xc_seq ?_
                  refine xc_region ?_
                  refine xl_op (P := Tryz.prog) (some 85) rfl rfl (ox_move (v := (.int .i64 (runS st 0 (nx.take k)))) rfl ?_)
                  refine xl_op (P := Tryz.prog) (some 86) rfl rfl (ox_lss (k := .i64) (a := (runS st 0 (nx.take k))) (b := 0) rfl rfl ?_)
                  refine xl_op (P := Tryz.prog) (some 87) rfl rfl (ox_move (v := (.bool (decide ((runS st 0 (nx.take k) : Int) < 0)))) rfl ?_)
                  refine xl_opg (P := Tryz.prog) (some 88) (j := 2) (b := false) rfl rfl (congrArg some (decide_eq_false (by omega))) (ox_move (v := (.int .i64 ((k : Nat)))) g12_f2 ?_)
                  refine xl_opg (P := Tryz.prog) (some 89) (j := 2) (b := false) rfl rfl (congrArg some (decide_eq_false (by omega))) (ox_move (v := (.int .i64 ((a : Nat)))) g8_f2 ?_)
                  refine xl_opg (P := Tryz.prog) (some 90) (j := 2) (b := false) rfl rfl (congrArg some (decide_eq_false (by omega))) (ox_geq (k := .i64) (a := ((k : Nat))) (b := ((a : Nat))) rfl rfl ?_)
                  refine xl_opg (P := Tryz.prog) (some 91) (j := 2) (b := false) rfl rfl (congrArg some (decide_eq_false (by omega))) (ox_move (v := (.bool (decide (((a : Nat) : Int) ≤ ((k : Nat)))))) rfl ?_)
                  by_cases h7 : ((a : Nat) : Int) ≤ ((k : Nat))
                  · skip
                    refine xl_opg (P := Tryz.prog) (some 92) (j := 6) (b := true) rfl rfl (congrArg some (decide_eq_true h7)) (ox_move (v := (.pointer (some ⟨ba_, 0, none⟩))) g5_f2 ?_)
                    refine xl_opg (P := Tryz.prog) (some 93) (j := 6) (b := true) rfl rfl (congrArg some (decide_eq_true h7)) (ox_move (v := (.int .i64 (runS st 0 (nx.take k)))) rfl ?_)
                    refine xl_opg (P := Tryz.prog) (some 94) (j := 6) (b := true) rfl rfl (congrArg some (decide_eq_true h7)) (ox_callE (al := [(.pointer (some ⟨ba_, 0, none⟩)), (.int .i64 (runS st 0 (nx.take k)))]) pf_15 rfl (ret_mono (autx_items (AutX.ext (AutX.ext hX_ x11) e12) (runS st 0 (nx.take k))) ?_))
                    rintro _ w15 ⟨A4, c4, rfl, hn1, e13⟩
                    have he13 := e13.size
                    have hmem : (⟨(j : Nat), (k : Nat) - (a : Nat)⟩ : Itm) ∈ itemsS st (runS st 0 (nx.take k)) := by
                      obtain ⟨q9, x9, e1, e2, e3⟩ := hff.2 (by omega)
                      rw [show ((k : Nat) : Int) - (a : Nat) = ((k - a : Nat) : Int) by omega, e1, itemsS_at e2]; exact e3
                    have hitl : (itemsS st (runS st 0 (nx.take k))).length ≤ 67240962 := by
                      obtain ⟨q9, x9, e1, e2, e3⟩ := hff.2 (by omega)
                      rw [e1, itemsS_at e2]; exact (haut.lens x9 (List.mem_of_getElem? e2)).1
                    refine xl_opg (P := Tryz.prog) (some 95) (j := 6) (b := true) rfl rfl (congrArg some (decide_eq_true h7)) (ox_move (v := (.int .i64 ((j : Nat)))) g9_f2 ?_)
                    refine xl_opg (P := Tryz.prog) (some 96) (j := 6) (b := true) rfl rfl (congrArg some (decide_eq_true h7)) (ox_move (v := (.int .i64 ((k : Nat)))) g12_f2 ?_)
                    refine xl_opg (P := Tryz.prog) (some 97) (j := 6) (b := true) rfl rfl (congrArg some (decide_eq_true h7)) (ox_move (v := (.int .i64 ((a : Nat)))) g8_f2 ?_)
                    refine xl_opg (P := Tryz.prog) (some 98) (j := 6) (b := true) rfl rfl (congrArg some (decide_eq_true h7)) (ox_sub64 (a := ((k : Nat))) (b := ((a : Nat))) rfl rfl (by omega) ?_)
                    refine xl_opg (P := Tryz.prog) (some 99) (j := 6) (b := true) rfl rfl (congrArg some (decide_eq_true h7)) (ox_mkStruct (ps := [(0, (.int .i64 ((j : Nat)))), (1, (.int .i64 ((k : Nat) - ((a : Nat)))))]) (cs := #[(.int .i64 ((j : Nat))), (.int .i64 ((k : Nat) - ((a : Nat))))]) tZ_42 tP_42 rfl (by kernel_rfl) ?_)
                    refine xl_opg (P := Tryz.prog) (some 100) (j := 6) (b := true) rfl rfl (congrArg some (decide_eq_true h7)) (ox_callE (al := [(.slice A4 ((itemsS st (runS st 0 (nx.take k))).length) c4), (.agg #[(.int .i64 ((j : Nat))), (.int .i64 ((k : Nat) - ((a : Nat))))])]) pf_14 rfl (ret_mono (holds_calls (itemsS st (runS st 0 (nx.take k))) A4 c4 (⟨(j : Nat), (k : Nat) - ((a : Nat))⟩ : Itm) w15 (Own.rowO hn1.1) (by omega)) ?_))
                    rintro _ w16 ⟨rfl, e14⟩
                    have he14 := e14.size
                    refine xl_opg (P := Tryz.prog) (some 101) (j := 6) (b := true) rfl rfl (congrArg some (decide_eq_true h7)) (ox_not (b := ((decide ((⟨(j : Nat), (k : Nat) - ((a : Nat))⟩ : Itm) ∈ itemsS st (runS st 0 (nx.take k)))))) rfl ?_)
                    refine xl_opg (P := Tryz.prog) (some 102) (j := 2) (b := false) rfl rfl (congrArg some (decide_eq_false (by omega))) (ox_pick_t (v := (.bool (!(decide ((⟨(j : Nat), (k : Nat) - ((a : Nat))⟩ : Itm) ∈ itemsS st (runS st 0 (nx.take k))))))) (congrArg Value.bool (decide_eq_true h7)) rfl ?_)
                    refine xl_op (P := Tryz.prog) (some 103) rfl rfl (ox_pick_f (v := (.bool (!(decide ((⟨(j : Nat), (k : Nat) - ((a : Nat))⟩ : Itm) ∈ itemsS st (runS st 0 (nx.take k))))))) (congrArg Value.bool (decide_eq_false (by omega))) rfl ?_)
                    refine xl_nil ?_
                    refine xc_cond_f (congrArg Value.bool (congrArg (fun b : Bool => !b) (decide_eq_true hmem))) ?_
                    refine xc_skip ?_
                    refine xc_region ?_
                    refine xl_op (P := Tryz.prog) (some 78) rfl rfl (ox_move (v := (.int .i64 ((k : Nat)))) g12_f2 ?_)
                    refine xl_op (P := Tryz.prog) (some 79) rfl rfl (ox_add64 (a := ((k : Nat))) (b := 1) rfl rfl (by omega) ?_)
                    refine xl_op (P := Tryz.prog) (some 12) rfl rfl (ox_assign (v := (.int .i64 ((k : Nat) + 1))) rfl ?_)
                    refine xl_nil ?_
                    have x12 : Ext w12 w16 := (Ext.trans (Ext.trans (Ext.trans x10 e12) e13) e14)
                    exact ⟨rfl, a + x_3.right.length + 1 - (k + 1), by omega, k + 1, by omega, (by omega), g1_f2, g2_f2, g5_f2, g6_f2, g7_f2, g23_f2, g24_f2, g25_f2, g26_f2, g27_f2, g28_f2, g29_f2, g30_f2, g31_f2, g34_f2, g35_f2, g8_f2, g36_f2, g38_f2, g39_f2, g40_f2, g41_f2, g42_f2, g43_f2, g44_f2, g45_f2, g46_f2, g47_f2, g48_f2, g9_f2, g49_f2, g51_f2, g52_f2, g53_f2, g54_f2, g55_f2, g56_f2, g10_f2, g11_f2, g57_f2, g58_f2, g59_f2, g60_f2, g61_f2, g62_f2, g63_f2, g64_f2, g65_f2, g66_f2, g67_f2, g68_f2, g69_f2, g70_f2, g71_f2, (by first | exact rfl | exact (congrArg (Value.int .i64) (by omega))), x12⟩
                  · skip
                    refine xl_skip (some 92) (j := 6) (b := true) false rfl rfl (congrArg some (decide_eq_false h7)) (by decide) ?_
                    refine xl_skip (some 93) (j := 6) (b := true) false rfl rfl (congrArg some (decide_eq_false h7)) (by decide) ?_
                    refine xl_skip (some 94) (j := 6) (b := true) false rfl rfl (congrArg some (decide_eq_false h7)) (by decide) ?_
                    refine xl_skip (some 95) (j := 6) (b := true) false rfl rfl (congrArg some (decide_eq_false h7)) (by decide) ?_
                    refine xl_skip (some 96) (j := 6) (b := true) false rfl rfl (congrArg some (decide_eq_false h7)) (by decide) ?_
                    refine xl_skip (some 97) (j := 6) (b := true) false rfl rfl (congrArg some (decide_eq_false h7)) (by decide) ?_
                    refine xl_skip (some 98) (j := 6) (b := true) false rfl rfl (congrArg some (decide_eq_false h7)) (by decide) ?_
                    refine xl_skip (some 99) (j := 6) (b := true) false rfl rfl (congrArg some (decide_eq_false h7)) (by decide) ?_
                    refine xl_skip (some 100) (j := 6) (b := true) false rfl rfl (congrArg some (decide_eq_false h7)) (by decide) ?_
                    refine xl_skip (some 101) (j := 6) (b := true) false rfl rfl (congrArg some (decide_eq_false h7)) (by decide) ?_
                    refine xl_opg (P := Tryz.prog) (some 102) (j := 2) (b := false) rfl rfl (congrArg some (decide_eq_false (by omega))) (ox_pick_f (v := (.bool false)) (congrArg Value.bool (decide_eq_false h7)) rfl ?_)
                    refine xl_op (P := Tryz.prog) (some 103) rfl rfl (ox_pick_f (v := (.bool false)) (congrArg Value.bool (decide_eq_false (by omega))) rfl ?_)
                    refine xl_nil ?_
                    refine xc_cond_f rfl ?_
                    refine xc_skip ?_
                    refine xc_region ?_
                    refine xl_op (P := Tryz.prog) (some 78) rfl rfl (ox_move (v := (.int .i64 ((k : Nat)))) g12_f2 ?_)
                    refine xl_op (P := Tryz.prog) (some 79) rfl rfl (ox_add64 (a := ((k : Nat))) (b := 1) rfl rfl (by omega) ?_)
                    refine xl_op (P := Tryz.prog) (some 12) rfl rfl (ox_assign (v := (.int .i64 ((k : Nat) + 1))) rfl ?_)
                    refine xl_nil ?_
                    have x13 : Ext w12 w14 := (Ext.trans x10 e12)
                    exact ⟨rfl, a + x_3.right.length + 1 - (k + 1), by omega, k + 1, by omega, (by omega), g1_f2, g2_f2, g5_f2, g6_f2, g7_f2, g23_f2, g24_f2, g25_f2, g26_f2, g27_f2, g28_f2, g29_f2, g30_f2, g31_f2, g34_f2, g35_f2, g8_f2, g36_f2, g38_f2, g39_f2, g40_f2, g41_f2, g42_f2, g43_f2, g44_f2, g45_f2, g46_f2, g47_f2, g48_f2, g9_f2, g49_f2, g51_f2, g52_f2, g53_f2, g54_f2, g55_f2, g56_f2, g10_f2, g11_f2, g57_f2, g58_f2, g59_f2, g60_f2, g61_f2, g62_f2, g63_f2, g64_f2, g65_f2, g66_f2, g67_f2, g68_f2, g69_f2, g70_f2, g71_f2, (by first | exact rfl | exact (congrArg (Value.int .i64) (by omega))), x13⟩
                · skip
                  refine xc_exit ?_
                  refine xc_region ?_
                  refine xl_op (P := Tryz.prog) (some 32) rfl rfl (ox_move (v := (.int .i64 ((i : Nat)))) g7_f2 ?_)
                  refine xl_op (P := Tryz.prog) (some 33) rfl rfl (ox_add64 (a := ((i : Nat))) (b := 1) rfl rfl (by omega) ?_)
                  refine xl_op (P := Tryz.prog) (some 7) rfl rfl (ox_assign (v := (.int .i64 ((i : Nat) + 1))) rfl ?_)
                  refine xl_nil ?_
                  have x14 : Ext w4 w13 := (Ext.trans (Chg.trans (Chg.trans (Chg.trans (Ext.trans (Ext.trans (Ext.trans x3 e5) e7) e8) e9 (fun b hb hl => (by simp [Value.ownBlock] at hb))) e10 (fun b hb hl => (absurd hl (by have _h := low1 b hb; omega)))) e11 (fun b hb hl => (absurd hl (by have _h := low2 b hb; omega)))) x10)
                  exact ⟨rfl, cl.length - (i + 1), by omega, i + 1, ((form.take a) ++ x_3.right) ++ (form.drop (a + 1)), A3, c3, by omega, (by omega), (form_next haut hF hz hzk hzl hjd hqp), (by have h9 := hnxl; rw [hnx] at h9; omega), g1_f2, g2_f2, g5_f2, g6_f2, (by first | exact rfl | exact (congrArg (Value.int .i64) (by omega))), (o3.ext x10), x14⟩
        · skip
          refine xc_exit ?_
          refine xc_seq ?_
          refine xc_region ?_
          have x15 : Ext w w5 := (Ext.trans (Ext.trans (Ext.trans e1 e2) e4) x3)
          refine xl_op (P := Tryz.prog) (some 104) rfl rfl (ox_callE (al := []) pf_10 rfl (ret_mono (known_calls w5 (TabIs.ext hT x15)) ?_))
          rintro _ w17 ⟨rfl, e15⟩
          have he15 := e15.size
          refine xl_op (P := Tryz.prog) (some 4) rfl rfl (ox_assign (v := (.bool true)) rfl ?_)
          refine xl_nil ?_
          refine xc_ret ?_
          change leaves _ _ _ _ _ _ _
          refine leaves_nil (n := 105) (rs := [.tmp 4]) (vs := [(.bool true)]) rfl ⟨⟨by decide, rfl⟩, trivial⟩ ?_
          have x16 : Ext w w17 := (Ext.trans x15 e15)
          exact ⟨rfl, x16⟩
      · skip
        refine xl_skip (some 28) (j := 4) (b := true) false rfl rfl (congrArg some (decide_eq_false h2)) (by decide) ?_
        refine xl_skip (some 29) (j := 4) (b := true) false rfl rfl (congrArg some (decide_eq_false h2)) (by decide) ?_
        refine xl_skip (some 30) (j := 4) (b := true) false rfl rfl (congrArg some (decide_eq_false h2)) (by decide) ?_
        refine xl_op (P := Tryz.prog) (some 31) rfl rfl (ox_pick_f (v := (.bool false)) (congrArg Value.bool (decide_eq_false h2)) rfl ?_)
        refine xl_nil ?_
        refine xc_cond_f rfl ?_
        refine xc_exit ?_
        refine xc_seq ?_
        refine xc_region ?_
        have x17 : Ext w w5 := (Ext.trans (Ext.trans (Ext.trans e1 e2) e4) x3)
        refine xl_op (P := Tryz.prog) (some 104) rfl rfl (ox_callE (al := []) pf_10 rfl (ret_mono (known_calls w5 (TabIs.ext hT x17)) ?_))
        rintro _ w18 ⟨rfl, e16⟩
        have he16 := e16.size
        refine xl_op (P := Tryz.prog) (some 4) rfl rfl (ox_assign (v := (.bool true)) rfl ?_)
        refine xl_nil ?_
        refine xc_ret ?_
        change leaves _ _ _ _ _ _ _
        refine leaves_nil (n := 105) (rs := [.tmp 4]) (vs := [(.bool true)]) rfl ⟨⟨by decide, rfl⟩, trivial⟩ ?_
        have x18 : Ext w w18 := (Ext.trans x17 e16)
        exact ⟨rfl, x18⟩
end Go.Proofs.YtnnmdkglgnlenaaGreatDoor
