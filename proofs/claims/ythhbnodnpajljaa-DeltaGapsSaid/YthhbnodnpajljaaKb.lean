/-
  The law's rows of leaves. No conditions.
-/
import Derived.Test.YthhbnodnpajljaaVxi
import Derived.Test.YthhbnodnpajljaaRows
import Derived.Test.YthhbnodnpajljaaRka
import Derived.Test.YthhbnodnpajljaaDh
import Derived.Test.YthhbnodnpajljaaDj
set_option linter.unusedVariables false
set_option linter.unusedSimpArgs false
set_option maxRecDepth 100000
set_option maxHeartbeats 4000000
namespace Go.Proofs.Ythhbnodnpajljaa
open Go Go.RowKit Go.Vx


theorem tA_4 : isAggT Try.prog 4 = some false := by kernel_rfl
theorem tS_4 : sizeT Try.prog 4 = some 1 := by kernel_rfl
theorem tU_36 : Try.prog.underlying 36 = some (.pointer 124) := by kernel_rfl
theorem tZ_4 : zeroOf Try.prog 4 = some (.bool false) := by kernel_rfl

theorem lvs_calls (stv : Value) (root : T) (w : World) (hP : PN stv w root) (hW : WF root) (hsz : sz root ≤ 4194304) :
    Calls Try.prog 34 #[(.pointer (some ⟨root.b, 0, none⟩))] w (Ret (fun v w' => ∃ A c A2 c2, v = .tuple #[.slice A (rl root).length c, .slice A2 ((rl root).length + 1) c2, .bool true] ∧ Vx.Own w' 3 1 (.slice A (rl root).length c) (rl root).length (((rl root).map T.id).map iV) ∧ Vx.Own w' 3 1 (.slice A2 ((rl root).length + 1) c2) ((rl root).length + 1) (bgC (rl root) ((rl root).length + 1)) ∧ Ext w w')) := by
  refine calls_xc (n := 34) (f := fun s_ => [(.pointer (some ⟨root.b, 0, none⟩))].getD s_ undef) Try.func34 rfl rfl (by simp) (fun s_ => by simp) ?_
  refine xc_seq ?_
  refine xc_region ?_
  refine xl_op (P := Try.prog) (some 2) rfl rfl (ox_alloc tZ_42 ?_)
  intro w1 e1 z1 b1
  replace b1 : Blk w1 w.heap.size #[(.slice none 0 0)] 42 := b1
  refine xl_op (P := Try.prog) (some 3) rfl rfl (ox_alloc tZ_42 ?_)
  intro w2 e2 z2 b2
  replace b2 : Blk w2 w1.heap.size #[(.slice none 0 0)] 42 := b2
  refine xl_op (P := Try.prog) (some 4) rfl rfl (ox_alloc tZ_4 ?_)
  intro w3 e3 z3 b3
  replace b3 : Blk w3 w2.heap.size #[(.bool false)] 4 := b3
  refine xl_nil ?_
  refine xc_seq ?_
  refine xc_region ?_
  refine xl_op (P := Try.prog) (some 10) rfl rfl (ox_move (v := (.pointer (some ⟨root.b, 0, none⟩))) rfl ?_)
  refine xl_op (P := Try.prog) (some 11) rfl rfl (ox_callE (al := [(.pointer (some ⟨root.b, 0, none⟩))]) pf_60 rfl (ret_mono (leavesF_calls root.b w3) ?_))
  rintro _ w4 ⟨rfl, hbk, zbk, e4⟩
  have he4 := e4.size
  refine xl_op (P := Try.prog) (some 5) rfl rfl (ox_assign (v := (.func (.func 71) #[] #[(.pointer (some ⟨w3.heap.size, 0, none⟩))])) rfl ?_)
  refine xl_nil ?_
  refine xc_seq ?_
  refine xc_seq ?_
  refine xc_region ?_
  refine xl_op (P := Try.prog) (some 12) rfl rfl (ox_move (v := (.func (.func 71) #[] #[(.pointer (some ⟨w3.heap.size, 0, none⟩))])) rfl ?_)
  refine xl_op (P := Try.prog) (some 13) rfl rfl (ox_eqlNilFunc (ps := #[149]) (rs := #[]) (vr := false) (by kernel_rfl) rfl rfl ?_)
  refine xl_nil ?_
  refine xc_cond_f rfl ?_
  refine xc_skip ?_
  refine xc_seq ?_
  refine xc_region ?_
  refine xl_op (P := Try.prog) (some 6) rfl rfl (ox_alloc tZ_42 ?_)
  intro w5 e5 z4 b4
  replace b4 : Blk w5 w4.heap.size #[(.slice none 0 0)] 42 := b4
  refine xl_nil ?_
  refine xc_seq ?_
  refine xc_region ?_
  refine xl_op (P := Try.prog) (some 7) rfl rfl (ox_alloc tZ_42 ?_)
  intro w6 e6 z5 b5
  replace b5 : Blk w6 w5.heap.size #[(.slice none 0 0)] 42 := b5
  refine xl_nil ?_
  refine xc_seq ?_
  refine xc_seq ?_
  refine xc_region ?_
  refine xl_op (P := Try.prog) (some 14) rfl rfl (ox_move (v := (.func (.func 71) #[] #[(.pointer (some ⟨w3.heap.size, 0, none⟩))])) rfl ?_)
  refine xl_nil ?_
  refine xc_block ?_
  have hE : Ext w w6 := (Ext.trans (Ext.trans (Ext.trans (Ext.trans (Ext.trans e1 e2) e3) e4) e5) e6)
  have hEs := hE.size
  have hb9 := ((hbk.ext e5).ext e6)
  have hbk0 := hb9.lt
  have hx6 := (b4.ext e6)
  have hx7 := b5
  have hl6 := hx6.lt; have hl7 := hx7.lt
  have hlow : ∀ b ∈ blocks root, b < w.heap.size := PN.lt hP
  obtain ⟨Bq, hBq⟩ : ∃ b, b = w4.heap.size := ⟨_, rfl⟩
  have hit := leaves_iter (X := fun _ => False) (B := Bq) hb9 (hP.ext hE) hW hsz (fun b hb => by have := hlow b hb; omega) (.inr (by omega)) (fun b h => h.elim) (by omega)
  have hI0 : lvI Bq w6 w4.heap.size w5.heap.size [] (fun _ => False) w6 := ⟨none, none, 0, 0, hx6, hx7, Vx.Own.nil _ _ _, Vx.Own.nil _ _ _, ⟨fun h => h, fun h => h⟩, fun k hk => by simp [Value.ownBlock] at hk, fun k hk => by simp [Value.ownBlock] at hk, fun k hk => by simp [Value.ownBlock] at hk, ⟨by omega, by omega⟩, Chg.refl _ _⟩
  have hll : (leafI root).length ≤ 4194304 := by have h1 := leafI_len root; omega
  have q1 := (((((b1.ext e2).ext e3).ext e4).ext e5).ext e6)
  have hz29 := q1
  have hz39 := ((((b2.ext e3).ext e4).ext e5).ext e6)
  have hz49 := (((b3.ext e4).ext e5).ext e6)
  refine xc_range (ps := #[15, 16]) (α := Int × T) (gf := 71) (lb := #[.pointer (some ⟨w3.heap.size, 0, none⟩)]) (encs := encW) (B := Bq) (X0 := fun _ => False) (xs := leafI root) rfl pf_71 (fun _ => rfl) hit (by omega) (fun b h => h.elim) (lvI Bq w6 w4.heap.size w5.heap.size) (fun _ _ _ _ => False) lvI_stab (fun _ _ _ _ _ _ _ h => h.elim) hI0 ?_ ?_ ?_
  · intro l₁ pre₁ x₁ Y W hpre hY hYl hl₁ hI
    obtain ⟨A6, A7, p6, p7, h⟩ := hI
    have hmem : x₁ ∈ walkT 0 root := (List.mem_filter.1 (hpre.subset (by simp))).1
    have hm := walkT_mem hmem
    have hlp : pre₁.length + 1 ≤ 4194304 := by have := hpre.length_le; simp at this; omega
    have hpx : PN stv W x₁.2 := PN.keep h.chg ((hm.1 stv w hP).ext hE) fun b hb h => by have := hlow b (hm.2.1 b hb); omega
    have hsz0 := h.chg.size
    refine xc_seq ?_
    refine xc_region ?_
    refine xl_op (P := Try.prog) (some 8) rfl rfl (ox_assign (v := (.int .i64 x₁.1)) rfl ?_)
    refine xl_nil ?_
    refine xc_region ?_
    refine xl_op (P := Try.prog) (some 9) rfl rfl (ox_assign (v := (.pointer (some ⟨x₁.2.b, 0, none⟩))) rfl ?_)
    refine xl_nil ?_
    refine ⟨rfl, rfl, Chg.refl _ _, fun W2 hcY hsY hlY => ?_⟩
    have hszY := hcY.size
    refine xc_block ?_
    refine xc_seq ?_
    refine xc_seq ?_
    refine xc_region ?_
    refine xl_op (P := Try.prog) (some 17) rfl rfl (ox_move (v := (.pointer (some ⟨x₁.2.b, 0, none⟩))) rfl ?_)
    refine xl_op (P := Try.prog) (some 18) rfl rfl (ox_eqlNil (p := (some ⟨x₁.2.b, 0, none⟩ : Option Addr)) (q := none) tU_36 rfl rfl (.inr rfl) ?_)
    refine xl_nil ?_
    refine xc_cond_f (congrArg Value.bool (decide_eq_false (by simp))) ?_
    refine xc_skip ?_
    refine xc_seq ?_
    refine xc_regionE [4, 5] (fun W_ => Chg (fun _ => False) W2 W_) hmix ?_
    intro w7 e7 z6
    have hS1 : Chg (fun _ => False) W2 w7 := Ext.to e7
    refine xd_take 0 (some 19) rfl rfl (by kernel_rfl) (v := (.slice A6 pre₁.length p6)) (.inl ⟨rfl, fun W_ hW_ => ox_load (v := (.slice A6 pre₁.length p6)) tA_42 rfl (((h.k6.keep hcY h.ny.1).ext hW_).cell rfl) ⟨rfl, rfl⟩⟩) hS1 ?_
    refine xd_pure 1 (some 20) rfl rfl (by kernel_rfl) (v := (.pointer (some ⟨x₁.2.b, 0, none⟩))) (.inl ⟨rfl, fun W_ hW_ => ox_move (v := (.pointer (some ⟨x₁.2.b, 0, none⟩))) rfl ⟨rfl, rfl⟩⟩) ?_
    have q2 := (hpx.keep hcY (fun b hb h9 => by have := hlow b (hm.2.1 b hb); have := (hY _ h9).1; omega))
    refine xd_take 2 (some 21) rfl rfl (by kernel_rfl) (v := (.int .i64 x₁.2.id)) (.inl ⟨rfl, fun W_ hW_ => ox_callE (al := [(.pointer (some ⟨x₁.2.b, 0, none⟩))]) pf_40 rfl (ret_mono (number_calls stv x₁.2 _ (q2.ext hW_)) (by rintro _ _ ⟨rfl, rfl⟩; exact ⟨rfl, rfl⟩))⟩) hS1 ?_
    refine xd_one 3 (some 22) rfl rfl (by kernel_rfl) rfl (ox_mkSlice (ps := [(0, (.int .i64 x₁.2.id))]) (zs := #[(.int .i64 0)]) (cs := #[(.int .i64 x₁.2.id)]) tE_42 rfl (by decide) (by kernel_rfl) (by kernel_rfl) ?_)
    intro w8 e8 z7 b6
    replace b6 : Blk w8 w7.heap.size #[(.int .i64 x₁.2.id)] 3 := b6
    have hS2 : Chg (fun _ => False) W2 w8 := Chg.ext hS1 e8
    refine ⟨.inr fun _ => hS2, ?_⟩
    have q3 := (h.o6.keep hcY (fun _k _hk => (h.n6 _k _hk).1))
    refine xd_one 4 (some 23) rfl rfl (by kernel_rfl) rfl (ox_append (n := pre₁.length) (g := w7.heap.size) (o := 0) (m := 1) (xs := (((ids pre₁).map iV))) (news := ([(.int .i64 x₁.2.id)])) rfl tE_42 rfl (by decide) (v := (.slice A6 pre₁.length p6)) rfl rfl ((q3.ext e7).ext e8) rfl b6.all rfl (by omega) (by omega) ?_)
    intro v1 w9 o1 e9 at1 nil1
    have he9 := e9.size
    obtain ⟨A1, c1, rfl, hc1⟩ := o1.shape
    have low1 : ∀ _k, (Value.slice A1 (pre₁.length + 1) c1).ownBlock = some _k → Bq ≤ _k := fun _k _h => by rcases at1 with _e | _e <;> rw [_e] at _h; exact (fun _k _h => (h.n6 _k _h).2) _k _h; exact (by cases _h; omega)
    refine ⟨.inl (by decide), ?_⟩
    have q4 := ((((h.k6.keep hcY h.ny.1).ext e7).ext e8).keep e9 (fun _h => ((q3.ext e7).ext e8).ne_blk (((h.k6.keep hcY h.ny.1).ext e7).ext e8) (by decide) _ _h rfl))
    refine xd_one 5 none rfl rfl (by kernel_rfl) rfl (ox_store (n := 1) (vs := [(.slice A1 (pre₁.length + 1) c1)]) tS_42 rfl (v := (.slice A1 (pre₁.length + 1) c1)) rfl rfl rfl rfl q4 (Nat.le_of_ble_eq_true rfl) ?_)
    intro w10 e10 z8 b7
    replace b7 : Blk w10 w4.heap.size #[(.slice A1 (pre₁.length + 1) c1)] 42 := b7
    refine ⟨.inl (by decide), ?_⟩
    refine xd_done (by kernel_rfl) ?_ _
    have q5 := (o1.keep1 e10 (fun k hk => o1.ne_blk q4 (by decide) k hk))
    have hq6l := (q5).lt
    have hdj2 : ∀ k, (Value.slice A1 (pre₁.length + 1) c1).ownBlock = some k → (Value.slice A7 pre₁.length p7).ownBlock ≠ some k := by
      intro k hk hk7; rcases at1 with h9 | h9
      · rw [h9] at hk; exact h.dj k hk hk7
      · rw [h9] at hk; cases hk; have := h.o7.lt _ hk7; have := hcY.size; omega
    refine xc_region ?_
    have q6 := ((((h.k7.keep hcY h.ny.2).ext e7).ext e8).keep e9 (fun _h => ((q3.ext e7).ext e8).ne_blk (((h.k7.keep hcY h.ny.2).ext e7).ext e8) (by decide) _ _h rfl))
    have q7 := (q6.keep1 e10 (by have _q := h.k7.lt; omega))
    refine xl_op (P := Try.prog) (some 24) rfl rfl (ox_load (v := (.slice A7 pre₁.length p7)) tA_42 rfl (q7.cell rfl) ?_)
    refine xl_op (P := Try.prog) (some 25) rfl rfl (ox_move (v := (.int .i64 x₁.1)) rfl ?_)
    refine xl_op (P := Try.prog) (some 26) rfl rfl (ox_mkSlice (ps := [(0, (.int .i64 x₁.1))]) (zs := #[(.int .i64 0)]) (cs := #[(.int .i64 x₁.1)]) tE_42 rfl (by decide) (by kernel_rfl) (by kernel_rfl) ?_)
    intro w11 e11 z9 b8
    replace b8 : Blk w11 w10.heap.size #[(.int .i64 x₁.1)] 3 := b8
    have q8 := (h.o7.keep hcY (fun _k _hk => (h.n7 _k _hk).1))
    have q9 := (((q8.ext e7).ext e8).keep e9 (fun k hk hh => h.dj k hh hk))
    have q10 := (q9.keep1 e10 (fun k hk => q9.ne_blk q4 (by decide) k hk))
    refine xl_op (P := Try.prog) (some 27) rfl rfl (ox_append (n := pre₁.length) (g := w10.heap.size) (o := 0) (m := 1) (xs := ((pre₁.map fun p => iV p.1))) (news := ([(.int .i64 x₁.1)])) rfl tE_42 rfl (by decide) (v := (.slice A7 pre₁.length p7)) rfl rfl (q10.ext e11) rfl b8.all rfl (by omega) (by omega) ?_)
    intro v2 w12 o2 e12 at2 nil2
    have he12 := e12.size
    obtain ⟨A2, c2, rfl, hc2⟩ := o2.shape
    have low2 : ∀ _k, (Value.slice A2 (pre₁.length + 1) c2).ownBlock = some _k → Bq ≤ _k := fun _k _h => by rcases at2 with _e | _e <;> rw [_e] at _h; exact (fun _k _h => (h.n7 _k _h).2) _k _h; exact (by cases _h; omega)
    have q11 := ((q7.ext e11).keep e12 (fun _h => (q10.ext e11).ne_blk (q7.ext e11) (by decide) _ _h rfl))
    refine xl_op (P := Try.prog) none rfl rfl (ox_store (n := 1) (vs := [(.slice A2 (pre₁.length + 1) c2)]) tS_42 rfl (v := (.slice A2 (pre₁.length + 1) c2)) rfl rfl rfl rfl q11 (Nat.le_of_ble_eq_true rfl) ?_)
    intro w13 e13 z10 b9
    replace b9 : Blk w13 w5.heap.size #[(.slice A2 (pre₁.length + 1) c2)] 42 := b9
    refine xl_nil ?_
    have hs2' := hcY.size
    have hs11 := e7.size
    have hs12 := e8.size
    have hs13 := e9.size
    have hs14 := e10.size
    have hs15 := e11.size
    have hs16 := e12.size
    have hs17 := e13.size
    have hM := (Chg.chg1 (Chg.trans (Chg.ext (Chg.chg1 (Chg.trans (Chg.ext (Chg.ext (Chg.refl (fun b => W.heap.size ≤ b ∨ (b = w4.heap.size ∨ b = w5.heap.size) ∨ (Value.slice A6 pre₁.length p6).ownBlock = some b ∨ (Value.slice A7 pre₁.length p7).ownBlock = some b) W2) e7) e8) e9 (fun b hb hl => by first | exact .inr (.inr (.inl hb)) | exact .inr (.inr (.inr hb)))) e10 (.inl (by first | (right; left; simp; done) | (left; omega)))) e11) e12 (fun b hb hl => by first | exact .inr (.inr (.inl hb)) | exact .inr (.inr (.inr hb)))) e13 (.inl (by first | (right; left; simp; done) | (left; omega))))
    have q12 := ((b7.ext e11).keep e12 (fun _h => (q10.ext e11).ne_blk (b7.ext e11) (by decide) _ _h rfl))
    have q13 := (q12.keep1 e13 (by have _q := b7.lt; omega))
    have hq0 := q13
    have hq1 := b9
    have q14 := ((q5.ext e11).keep e12 (fun k hk hh => hdj2 k hk hh))
    have q15 := (q14.keep1 e13 (fun k hk => q14.ne_blk q11 (by decide) k hk))
    have hq2 := q15
    have q16 := (o2.keep1 e13 (fun k hk => o2.ne_blk q11 (by decide) k hk))
    have hq3 := q16
    have hnew6 : ∀ k, (Value.slice A1 (pre₁.length + 1) c1).ownBlock = some k → ¬ Y k ∧ Bq ≤ k := by
      intro k hk; rcases at1 with h9 | h9
      · rw [h9] at hk; exact h.n6 k hk
      · rw [h9] at hk; cases hk; exact ⟨fun hy => by have := (hY _ hy).2; omega, by have := h.chg.size; omega⟩
    have hnew7 : ∀ k, (Value.slice A2 (pre₁.length + 1) c2).ownBlock = some k → ¬ Y k ∧ Bq ≤ k := by
      intro k hk; rcases at2 with h9 | h9
      · rw [h9] at hk; exact h.n7 k hk
      · rw [h9] at hk; cases hk; exact ⟨fun hy => by have := (hY _ hy).2; omega, by have := h.chg.size; omega⟩
    have hMM : Mine Bq Y W2 w13 := hM.mono fun b hl hb => by
      have hlw := h.low; have hny := h.ny
      rcases hb with hb | (hb | hb) | hb | hb
      · exact ⟨fun hy => by have := (hY _ hy).2; omega, by have := h.chg.size; omega⟩
      · subst hb; exact ⟨hny.1, hlw.1⟩
      · subst hb; exact ⟨hny.2, hlw.2⟩
      · exact h.n6 b hb
      · exact h.n7 b hb
    have hdj9 : ∀ k, (Value.slice A1 (pre₁.length + 1) c1).ownBlock = some k → (Value.slice A2 (pre₁.length + 1) c2).ownBlock ≠ some k := by
      intro k hk hk7; rcases at2 with h9 | h9
      · rw [h9] at hk7; exact hdj2 k (ownBlock_len hk) hk7
      · rw [h9] at hk7; cases hk7; have := hq6l _ (ownBlock_len hk); omega
    have hln : (pre₁ ++ [x₁]).length = pre₁.length + 1 := by simp
    refine ⟨hMM, A1, A2, c1, c2, by rw [hln]; exact hq0, by rw [hln]; exact hq1, by rw [hln, ids_snoc, List.map_append]; exact hq2, by rw [hln, List.map_append]; exact hq3, h.ny, by rw [hln]; exact hnew6, by rw [hln]; exact hnew7, by rw [hln]; exact hdj9, h.low, ?_⟩
    exact Chg.trans (Chg.trans h.chg hcY fun b hb _ => (hY b hb).1) hMM fun b hb _ => hb.2
  · skip
    intro D Y W hD hY hYD hI hheap
    obtain ⟨A6, A7, p6, p7, h⟩ := hI
    have hLg := leafI_len2 hW
    have hsz0 := h.chg.size
    have hlw9 := h.low
    have hr2 : Blk W w.heap.size #[(.slice none 0 0)] 42 := (hz29).keep h.chg (fun h9 => by have h8 := b1.lt; have h7 : Bq ≤ w.heap.size := h9; omega)
    have hr3 : Blk W w1.heap.size #[(.slice none 0 0)] 42 := (hz39).keep h.chg (fun h9 => by have h8 := b2.lt; have h7 : Bq ≤ w1.heap.size := h9; omega)
    have hr4 : Blk W w2.heap.size #[(.bool false)] 4 := (hz49).keep h.chg (fun h9 => by have h8 := b3.lt; have h7 : Bq ≤ w2.heap.size := h9; omega)
    refine xc_seq ?_
    refine xc_regionE [6, 7, 8] (fun W_ => Chg (fun x => ((.slice A7 ((leafI root).length) p7) : Value).ownBlock = some x) W W_) hmix ?_
    intro w14 e14 z11
    have hS3 : Chg (fun x => ((.slice A7 ((leafI root).length) p7) : Value).ownBlock = some x) W w14 := Ext.to e14
    refine xd_takeU 0 (some 28) [6, 7, 8] rfl rfl (by kernel_rfl) (v := (.slice A6 ((leafI root).length) p6)) (.inl ⟨rfl, fun W_ hW_ => ox_load (v := (.slice A6 ((leafI root).length) p6)) tA_42 rfl ((h.k6.keep hW_ (fun _h => h.o7.ne_blk h.k6 (by decide) _ _h rfl)).cell rfl) ⟨rfl, rfl⟩⟩) hS3 ?_
    refine xd_takeU 1 (some 29) [5, 7, 8, 6] rfl rfl (by kernel_rfl) (v := (.slice A7 ((leafI root).length) p7)) (.inl ⟨rfl, fun W_ hW_ => ox_load (v := (.slice A7 ((leafI root).length) p7)) tA_42 rfl ((h.k7.keep hW_ (fun _h => h.o7.ne_blk h.k7 (by decide) _ _h rfl)).cell rfl) ⟨rfl, rfl⟩⟩) hS3 ?_
    refine xd_pure 2 (some 30) rfl rfl (by kernel_rfl) (v := (.pointer (some ⟨root.b, 0, none⟩))) (.inl ⟨rfl, fun W_ hW_ => ox_move (v := (.pointer (some ⟨root.b, 0, none⟩))) rfl ⟨rfl, rfl⟩⟩) ?_
    refine xd_takeU 3 (some 31) [4, 5, 7, 8, 6] rfl rfl (by kernel_rfl) (v := (.int .i64 (wd root))) (.inl ⟨rfl, fun W_ hW_ => ox_callE (al := [(.pointer (some ⟨root.b, 0, none⟩))]) pf_61 rfl (ret_mono (width_calls stv root _ ((PN.keep h.chg (hP.ext hE) fun b hb h => by have := hlow b hb; omega).keep hW_ (fun b hb h9 => by have h1 := hlow b hb; have h2 := h.n7 _ h9; omega))) (by rintro _ _ ⟨rfl, rfl⟩; exact ⟨rfl, rfl⟩))⟩) hS3 ?_
    refine xd_one 4 (some 32) rfl rfl (by kernel_rfl) rfl (ox_mkSlice (ps := [(0, (.int .i64 (wd root)))]) (zs := #[(.int .i64 0)]) (cs := #[(.int .i64 (wd root))]) tE_42 rfl (by decide) (by kernel_rfl) (by kernel_rfl) ?_)
    intro w15 e15 z12 b10
    replace b10 : Blk w15 w14.heap.size #[(.int .i64 (wd root))] 3 := b10
    have hS4 : Chg (fun x => ((.slice A7 ((leafI root).length) p7) : Value).ownBlock = some x) W w15 := Chg.ext hS3 e15
    refine ⟨.inr fun _ => hS4, ?_⟩
    refine xd_one 5 (some 33) rfl rfl (by kernel_rfl) rfl (ox_append (n := ((leafI root).length)) (g := w14.heap.size) (o := 0) (m := 1) (xs := (((leafI root).map fun p => iV p.1))) (news := ([(.int .i64 (wd root))])) rfl tE_42 rfl (by decide) (v := (.slice A7 ((leafI root).length) p7)) rfl rfl ((h.o7.ext e14).ext e15) rfl b10.all rfl (by omega) (by omega) ?_)
    intro v3 w16 o3 e16 at3 nil3
    have he16 := e16.size
    obtain ⟨A3, c3, rfl, hc3⟩ := o3.shape
    have low3 : ∀ _k, (Value.slice A3 ((leafI root).length + 1) c3).ownBlock = some _k → Bq ≤ _k := fun _k _h => by rcases at3 with _e | _e <;> rw [_e] at _h; exact (fun _k _h => (h.n7 _k _h).2) _k _h; exact (by cases _h; omega)
    have hS5 : Chg (fun x => ((.slice A7 ((leafI root).length) p7) : Value).ownBlock = some x) W w16 := Chg.trans hS4 e16 (fun x hx hl => hx)
    refine ⟨.inr fun _ => hS5, ?_⟩
    have q17 := (((hr2.ext e14).ext e15).keep e16 (fun _h => ((h.o7.ext e14).ext e15).ne_blk ((hr2.ext e14).ext e15) (by decide) _ _h rfl))
    refine xd_one 6 none rfl rfl (by kernel_rfl) rfl (ox_store (n := 1) (vs := [(.slice A6 ((leafI root).length) p6)]) tS_42 rfl (v := (.slice A6 ((leafI root).length) p6)) rfl rfl rfl rfl q17 (Nat.le_of_ble_eq_true rfl) ?_)
    intro w17 e17 z13 b11
    replace b11 : Blk w17 w.heap.size #[(.slice A6 ((leafI root).length) p6)] 42 := b11
    refine ⟨.inl (by decide), ?_⟩
    have q18 := (((hr3.ext e14).ext e15).keep e16 (fun _h => ((h.o7.ext e14).ext e15).ne_blk ((hr3.ext e14).ext e15) (by decide) _ _h rfl))
    have q19 := (q18.keep1 e17 (by have _q := hr3.lt; omega))
    refine xd_one 7 none rfl rfl (by kernel_rfl) rfl (ox_store (n := 1) (vs := [(.slice A3 ((leafI root).length + 1) c3)]) tS_42 rfl (v := (.slice A3 ((leafI root).length + 1) c3)) rfl rfl rfl rfl q19 (Nat.le_of_ble_eq_true rfl) ?_)
    intro w18 e18 z14 b12
    replace b12 : Blk w18 w1.heap.size #[(.slice A3 ((leafI root).length + 1) c3)] 42 := b12
    refine ⟨.inl (by decide), ?_⟩
    have q20 := (((hr4.ext e14).ext e15).keep e16 (fun _h => ((h.o7.ext e14).ext e15).ne_blk ((hr4.ext e14).ext e15) (by decide) _ _h rfl))
    have q21 := ((q20.keep1 e17 (q20.ne q17 (by decide))).keep1 e18 ((q20.keep1 e17 (q20.ne q17 (by decide))).ne q19 (by decide)))
    refine xd_one 8 none rfl rfl (by kernel_rfl) rfl (ox_store (n := 1) (vs := [(.bool true)]) tS_4 rfl (v := (.bool true)) rfl rfl rfl rfl q21 (Nat.le_of_ble_eq_true rfl) ?_)
    intro w19 e19 z15 b13
    replace b13 : Blk w19 w2.heap.size #[(.bool true)] 4 := b13
    refine ⟨.inl (by decide), ?_⟩
    refine xd_done (by kernel_rfl) ?_ _
    refine xc_ret ?_
    change leaves _ _ _ _ _ _ _
    have hsr0 := e14.size
    have hsr1 := e15.size
    have hsr2 := e16.size
    have hsr3 := e17.size
    have hsr4 := e18.size
    have hsr5 := e19.size
    have hEx := (Chg.chg1 (Chg.chg1 (Chg.chg1 (Chg.trans (Chg.ext (Chg.ext (Chg.refl (fun b => b = w.heap.size ∨ b = w1.heap.size ∨ b = w2.heap.size ∨ (Value.slice A7 (leafI root).length p7).ownBlock = some b) W) e14) e15) e16 (fun b hb hl => .inr (.inr (.inr hb)))) e17 (.inl (by first | exact .inl rfl | exact .inr (.inl rfl) | exact .inr (.inr (.inl rfl))))) e18 (.inl (by first | exact .inl rfl | exact .inr (.inl rfl) | exact .inr (.inr (.inl rfl))))) e19 (.inl (by first | exact .inl rfl | exact .inr (.inl rfl) | exact .inr (.inr (.inl rfl)))))
    have hx9 : ∀ b, (b = w.heap.size ∨ b = w1.heap.size ∨ b = w2.heap.size ∨ (Value.slice A7 (leafI root).length p7).ownBlock = some b) → w.heap.size ≤ b := by
      rintro b (h9 | h9 | h9 | h9)
      · omega
      · omega
      · omega
      · have := (h.n7 _ h9).2; omega
    have hDw := mark_keep hheap hEx (by rintro (h9 | h9 | h9 | h9); exact mark_ne hheap hr2 h9; exact mark_ne hheap hr3 h9; exact mark_ne hheap hr4 h9; exact (h.n7 _ h9).1 hYD)
    have q22 := (b11.keep1 e18 (by have _q := b11.lt; omega))
    have hf2 := (q22.keep1 e19 (q22.ne q21 (by decide)))
    have hf3 := (b12.keep1 e19 (b12.ne q21 (by decide)))
    have hf4 := b13
    have q23 := (((h.o6.ext e14).ext e15).keep e16 (fun k hk hh => h.dj k hk hh))
    have q24 := (q23.keep1 e17 (fun k hk => q23.ne_blk q17 (by decide) k hk))
    have q25 := (q24.keep1 e18 (fun k hk => q24.ne_blk q19 (by decide) k hk))
    have q26 := (q25.keep1 e19 (fun k hk => q25.ne_blk q21 (by decide) k hk))
    have hf6 := q26
    have q27 := (o3.keep1 e17 (fun k hk => o3.ne_blk q17 (by decide) k hk))
    have q28 := (q27.keep1 e18 (fun k hk => q27.ne_blk q19 (by decide) k hk))
    have q29 := (q28.keep1 e19 (fun k hk => q28.ne_blk q21 (by decide) k hk))
    have hf7 := q29
    refine leaves_marks [D] _ (fun D' hD' => by simp at hD'; subst hD'; exact hDw) (by simp) (fun w9 hc9 hs9 => ?_)
    have hD9 : ∀ b, b ∈ [D] → b = D := fun b hb => by simpa using hb
    have hg2 := hf2.keep hc9 (fun h9 => mark_ne hDw hf2 (hD9 _ h9).symm)
    have hg3 := hf3.keep hc9 (fun h9 => mark_ne hDw hf3 (hD9 _ h9).symm)
    have hg4 := hf4.keep hc9 (fun h9 => mark_ne hDw hf4 (hD9 _ h9).symm)
    have hg6 := hf6.keep hc9 (fun k hk h9 => by obtain ⟨cur9, hcur9⟩ := Own.exB hf6 hk; exact mark_ne hDw hcur9 (hD9 _ h9).symm)
    have hg7 := hf7.keep hc9 (fun k hk h9 => by obtain ⟨cur9, hcur9⟩ := Own.exB hf7 hk; exact mark_ne hDw hcur9 (hD9 _ h9).symm)
    refine leaves_cells (n := 34) (rs := [(2, 42), (3, 42), (4, 4)]) (vs := [(.slice A6 ((leafI root).length) p6), (.slice A3 ((leafI root).length + 1) c3), (.bool true)]) rfl ⟨⟨by decide, _, _, rfl, tA_42, hg2.cell rfl⟩, ⟨by decide, _, _, rfl, tA_42, hg3.cell rfl⟩, ⟨by decide, _, _, rfl, tA_4, hg4.cell rfl⟩, trivial⟩ ?_
    have hwn : wdL ((rl root).take (rl root).length) = wd root := by rw [List.take_length, rl_wd]
    rw [leafI_id2 hW, hLg] at hg6
    rw [leafI_bg hW, hLg] at hg7
    refine ⟨A6, p6, A3, c3, by rw [← hLg]; rfl, hg6, by rw [bgC_succ, hwn]; exact hg7, ?_⟩
    exact Chg.trans (Chg.trans (Chg.trans hE h.chg (fun b hb hl => absurd hl (by have h9 : Bq ≤ b := hb; omega))) hEx (fun b hb hl => absurd hl (by have := hx9 b hb; omega))) hc9 (fun b hb hl => absurd hl (by have := hD9 b hb; omega))
  · skip
    intro D Y c pre W hD hY hYD hpre hI hheap; exact hI.elim

end Go.Proofs.Ythhbnodnpajljaa
