/-
  delta.Ranges as an iterator: the bytes of the hunks, in their order. No conditions.
-/
import Derived.Test.YthhbnodnpajljaaVxi
import Derived.Test.YthhbnodnpajljaaRows
import Derived.Test.YthhbnodnpajljaaRja
import Derived.Test.YthhbnodnpajljaaDm
set_option linter.unusedVariables false
set_option linter.unusedSimpArgs false
set_option maxRecDepth 100000
set_option maxHeartbeats 4000000
namespace Go.Proofs.Ythhbnodnpajljaa
open Go Go.RowKit Go.Vx


theorem pf_46 : plainF Try.prog 46 = true := by kernel_rfl
theorem tA_40 : isAggT Try.prog 40 = some true := by kernel_rfl
theorem tA_79 : isAggT Try.prog 79 = some true := by kernel_rfl
theorem tF_130_1 : fieldT Try.prog 130 1 = some 1 := by kernel_rfl
theorem tF_130_2 : fieldT Try.prog 130 2 = some 2 := by kernel_rfl
theorem tF_40_2 : fieldT Try.prog 40 2 = some 2 := by kernel_rfl
theorem tF_40_3 : fieldT Try.prog 40 3 = some 3 := by kernel_rfl
theorem tF_79_0 : fieldT Try.prog 79 0 = some 0 := by kernel_rfl
theorem tF_79_1 : fieldT Try.prog 79 1 = some 1 := by kernel_rfl
theorem tP_79 : placesT Try.prog 79 = some #[(0, 1), (1, 1)] := by kernel_rfl
theorem tS_40 : sizeT Try.prog 40 = some 4 := by kernel_rfl
theorem tS_79 : sizeT Try.prog 79 = some 2 := by kernel_rfl
theorem tU_34 : Try.prog.underlying 34 = some (.slice 40) := by kernel_rfl
theorem tZ_79 : zeroOf Try.prog 79 = some (.agg #[(.int .i64 0), (.int .i64 0)]) := by kernel_rfl

theorem rng_calls (l B bx by_ : Nat) (stv : Value) (ra rb : T) (H : List Hk) (X0 : Nat → Prop) (J Jx : List Sn → (Nat → Prop) → World → Prop) (w : World) (hH : H = (hunks (ids (leafI ra)) (ids (leafI rb)))) (hbx : Blk w bx #[ra.ptr] 36) (hby : Blk w by_ #[rb.ptr] 36) (hPa : PN stv w ra) (hWa : WF ra) (hsa : sz ra ≤ 4194304) (hPb : PN stv w rb) (hWb : WF rb) (hsb : sz rb ≤ 4194304) (hX : ∀ b, X0 b → B ≤ b ∧ b < w.heap.size) (hB : B ≤ w.heap.size) (hJ : Stab B J) (hJx : Stab B Jx) (hy : IterY Try.prog l encS B (spans (rl rb) H) J Jx) (h0 : J [] X0 w) :
    Calls Try.prog 58 #[(.func (.yield l) #[] #[]), (.pointer (some ⟨bx, 0, none⟩)), (.pointer (some ⟨by_, 0, none⟩))] w (Ret (IterR B (spans (rl rb) H) J Jx)) := by
  have hrl := rl_len rb
  have hHa : ∀ x ∈ H, hkG (ids (leafI rb)).length x := by rw [hH]; exact hunks_all _ _
  have hHl : H.length ≤ 4194305 := by have h1 := hunks_len (ids (leafI ra)) (ids (leafI rb)); rw [← hH, ids_len] at h1; have h2 := leafI_len ra; omega
  refine calls_xc (n := 52) (f := fun s_ => [(.func (.yield l) #[] #[]), (.pointer (some ⟨bx, 0, none⟩)), (.pointer (some ⟨by_, 0, none⟩))].getD s_ undef) Try.func58 rfl rfl (by simp) (fun s_ => by simp) ?_
  refine xc_seq ?_
  refine xc_region ?_
  refine xl_op (P := Try.prog) (some 10) rfl rfl (ox_load (v := (.pointer (some ⟨ra.b, 0, none⟩))) tA_36 rfl (hbx.cell rfl) ?_)
  refine xl_op (P := Try.prog) (some 11) rfl rfl (ox_load (v := (.pointer (some ⟨rb.b, 0, none⟩))) tA_36 rfl (hby.cell rfl) ?_)
  refine xl_op (P := Try.prog) (some 12) rfl rfl (ox_callE (al := [(.pointer (some ⟨ra.b, 0, none⟩)), (.pointer (some ⟨rb.b, 0, none⟩))]) pf_46 rfl (ret_mono ((by have h := part_calls stv ra rb w (hPa.ext (Chg.refl _ _)) hWa hsa (hPb.ext (Chg.refl _ _)) hWb hsb; rw [← hH] at h; exact h)) ?_))
  rintro _ w1 ⟨A, c, A3, c3, rfl, ho, ho3, hn, hn3, e1⟩
  have he1 := e1.size
  refine xl_op (P := Try.prog) (some 9) rfl rfl (ox_move (v := (.tuple #[(.slice A H.length c), (.slice A3 ((leafI rb).length) c3)])) rfl ?_)
  refine xl_op (P := Try.prog) (some 13) rfl rfl (ox_extract (vs := #[(.slice A H.length c), (.slice A3 ((leafI rb).length) c3)]) (v := (.slice A H.length c)) rfl rfl ?_)
  refine xl_op (P := Try.prog) (some 14) rfl rfl (ox_extract (vs := #[(.slice A H.length c), (.slice A3 ((leafI rb).length) c3)]) (v := (.slice A3 ((leafI rb).length) c3)) rfl rfl ?_)
  refine xl_op (P := Try.prog) (some 4) rfl rfl (ox_assign (v := (.slice A H.length c)) rfl ?_)
  refine xl_op (P := Try.prog) (some 5) rfl rfl (ox_assign (v := (.slice A3 ((leafI rb).length) c3)) rfl ?_)
  refine xl_nil ?_
  refine xc_seq ?_
  refine xc_region ?_
  refine xl_op (P := Try.prog) (some 15) rfl rfl (ox_move (v := (.slice A H.length c)) rfl ?_)
  refine xl_op (P := Try.prog) (some 16) rfl rfl (ox_len (A := A) (n := H.length) (cp := c) rfl tU_34 rfl ?_)
  refine xl_op (P := Try.prog) (some 17) rfl rfl (ox_move (v := (.int .i64 0)) rfl ?_)
  refine xl_nil ?_
  refine xc_block ?_
  have hEq := e1
  have hqz := hEq.size
  have hql := ho.lt; have hql3 := ho3.lt
  obtain ⟨X1, hX1d⟩ : ∃ X1 : Nat → Prop, X1 = fun b => X0 b ∨ (w.heap.size ≤ b ∧ b < w1.heap.size) := ⟨_, rfl⟩
  have hX1 : ∀ b, X1 b → B ≤ b ∧ b < w1.heap.size := by rw [hX1d]; intro b hb; rcases hb with hb | hb; have := hX b hb; omega; omega
  have hX1n : ∀ b, w.heap.size ≤ b → b < w1.heap.size → X1 b := by rw [hX1d]; exact fun b h1 h2 => .inr ⟨h1, h2⟩
  have hJ1 : J [] X1 w1 := hJ _ _ w _ _ hX h0 (Ext.to hEq) (by rw [hX1d]; exact fun b hb => hb.elim .inl fun h => .inr h.1)
  refine xc_loopN (fun m f W => ∃ (k : Nat), m = H.length - k ∧ k ≤ H.length ∧ f 0 = (.func (.yield l) #[] #[]) ∧ f 5 = (.slice A3 ((leafI rb).length) c3) ∧ f 15 = (.slice A H.length c) ∧ f 16 = (.int .i64 (((H.length : Nat) : Int))) ∧ f 17 = (.int .i64 ((k : Nat))) ∧ Vx.Own W 40 4 (.slice A H.length c) H.length (hkC H) ∧ Vx.Own W 130 3 (.slice A3 (leafI rb).length c3) (leafI rb).length (spC (spL (leafI rb))) ∧ w1.heap.size ≤ W.heap.size ∧ J (spans (rl rb) (H.take k)) X1 W) (H.length) ?_ ?_
  · exact ⟨0, by omega, by omega, rfl, rfl, rfl, rfl, (by first | exact rfl | exact (congrArg (Value.int .i64) (by omega))), ho, ho3, (Nat.le_refl _), hJ1⟩
  · rintro m f1 w2 ⟨k, hm, hk, g0_f1, g5_f1, g15_f1, g16_f1, g17_f1, o_f1, o3_f1, z_f1, j_f1⟩
    have hXW : ∀ b, X1 b → B ≤ b ∧ b < w2.heap.size := fun b hb => by have := hX1 b hb; have := z_f1; omega
    refine xc_seq ?_
    refine xc_region ?_
    refine xl_op (P := Try.prog) (some 18) rfl rfl (ox_lss (k := .i64) (a := ((k : Nat))) (b := (((H.length : Nat) : Int))) g17_f1 g16_f1 ?_)
    refine xl_nil ?_
    refine xc_seq ?_
    refine xc_if (p := ((k : Nat) : Int) < (((H.length : Nat) : Int))) rfl (fun h1 => ?_) (fun h1 => ?_)
    · skip
      have hkl : k < H.length := by omega
      obtain ⟨h, hh⟩ := get_ex (l := H) (i := k) hkl
      obtain ⟨hh1, hh2, hh3⟩ := hHa h (List.mem_of_getElem? hh)
      rw [ids_len] at hh3
      have hll := leafI_len2 hWb
      obtain ⟨gh, ch9, heqh, _⟩ := o_f1.some_of (by omega)
      simp only [Value.slice.injEq, true_and] at heqh
      obtain ⟨rfl, rfl⟩ := heqh
      have hch := Own.hk o_f1 hh
      refine xc_skip ?_
      refine xc_seq ?_
      refine xc_block ?_
      refine xc_seq ?_
      refine xc_region ?_
      refine xl_op (P := Try.prog) (some 19) rfl rfl (ox_indexAddr (b := gh) (o := 0) (i := ((k : Nat))) tE_34 g15_f1 g17_f1 (by omega) (by omega) ?_)
      refine xl_op (P := Try.prog) (some 20) rfl rfl (ox_loadN (vs := [(.int .i64 h.frm), (.int .i64 h.to), (.int .i64 h.into), (.int .i64 h.upto)]) tA_40 tS_40 rfl rfl (by simpa [hkCs] using CellsL.keep (Chg.refl (fun _ => False) _) not_false hch) ?_)
      refine xl_op (P := Try.prog) (some 7) rfl rfl (ox_alloc tZ_40 ?_)
      intro w3 e2 z1 b1
      replace b1 : Blk w3 w2.heap.size #[(.int .i64 0), (.int .i64 0), (.int .i64 0), (.int .i64 0)] 40 := b1
      refine xl_op (P := Try.prog) none rfl rfl (ox_store (n := 4) (vs := [(.int .i64 h.frm), (.int .i64 h.to), (.int .i64 h.into), (.int .i64 h.upto)]) tS_40 rfl (v := (.agg #[(.int .i64 h.frm), (.int .i64 h.to), (.int .i64 h.into), (.int .i64 h.upto)])) rfl rfl rfl rfl b1 (Nat.le_of_ble_eq_true rfl) ?_)
      intro w4 e3 z2 b2
      replace b2 : Blk w4 w2.heap.size #[(.int .i64 h.frm), (.int .i64 h.to), (.int .i64 h.into), (.int .i64 h.upto)] 40 := blk_full b2 rfl
      refine xl_nil ?_
      refine xc_seq ?_
      refine xc_seq ?_
      refine xc_region ?_
      refine xl_op (P := Try.prog) (some 21) rfl rfl (ox_fieldAddr (b := w2.heap.size) (o := 0) tF_40_2 rfl ?_)
      refine xl_op (P := Try.prog) (some 22) rfl rfl (ox_load (v := (.int .i64 h.into)) tA_3 rfl (b2.cell rfl) ?_)
      refine xl_op (P := Try.prog) (some 23) rfl rfl (ox_fieldAddr (b := w2.heap.size) (o := 0) tF_40_3 rfl ?_)
      refine xl_op (P := Try.prog) (some 24) rfl rfl (ox_load (v := (.int .i64 h.upto)) tA_3 rfl (b2.cell rfl) ?_)
      refine xl_op (P := Try.prog) (some 25) rfl rfl (ox_eql (k := .i64) (a := h.into) (b := h.upto) rfl rfl ?_)
      refine xl_nil ?_
      refine xc_if (p := (h.into : Int) = h.upto) rfl (fun h2 => ?_) (fun h2 => ?_)
      · skip
        have hlt := span_eq (m := rl rb) h2
        refine xc_exit ?_
        refine xc_region ?_
        refine xl_op (P := Try.prog) (some 51) rfl rfl (ox_add64 (a := ((k : Nat))) (b := 1) g17_f1 rfl (by omega) ?_)
        refine xl_op (P := Try.prog) (some 17) rfl rfl (ox_move (v := (.int .i64 ((k : Nat) + 1))) rfl ?_)
        refine xl_nil ?_
        have hEy := (Ext.chg1 e2 e3 (by omega))
        have hsp := spans_no hh hlt
        exact ⟨rfl, H.length - (k + 1), by omega, k + 1, by omega, by omega, g0_f1, g5_f1, g15_f1, g16_f1, (by first | exact rfl | exact (congrArg (Value.int .i64) (by omega))), (o_f1.ext hEy), (o3_f1.ext hEy), (by have := hEy.size; have := z_f1; omega), (by rw [hsp]; exact hJ _ _ _ _ _ hXW j_f1 (Ext.to hEy) (fun b hb => .inl hb))⟩
      · skip
        have hne : h.into ≠ h.upto := h2
        obtain ⟨u1, hu1⟩ := get_ex (l := rl rb) (i := h.into.toNat) (by omega)
        obtain ⟨u2, hu2⟩ := get_ex (l := rl rb) (i := (h.upto - 1).toNat) (by omega)
        have hs1 := spot_at hWb hu1; have hs2 := spot_at hWb hu2
        rw [show (h.upto - 1).toNat + 1 = h.upto.toNat by omega] at hs2
        obtain ⟨g3, c39, heq3, _⟩ := o3_f1.some_of (by omega)
        simp only [Value.slice.injEq, true_and] at heq3
        obtain ⟨rfl, rfl⟩ := heq3
        have hcs1 := o3_f1.cells (flat_get (fun s : Sp => [.int .i64 s.n, .int .i64 s.frm, .int .i64 s.to]) 3 (fun _ => rfl) hs1)
        have hcs2 := o3_f1.cells (flat_get (fun s : Sp => [.int .i64 s.n, .int .i64 s.frm, .int .i64 s.to]) 3 (fun _ => rfl) hs2)
        refine xc_skip ?_
        refine xc_seq ?_
        refine xc_regionE [15] (fun W_ => Chg (fun _ => False) w4 W_) hmix ?_
        intro w5 e4 z3
        have hS1 : Chg (fun _ => False) w4 w5 := Ext.to e4
        refine xd_pure 0 (some 26) rfl rfl (by kernel_rfl) (v := (.slice (some ⟨g3, 0, none⟩) ((leafI rb).length) c3)) (.inl ⟨rfl, fun W_ hW_ => ox_move (v := (.slice (some ⟨g3, 0, none⟩) ((leafI rb).length) c3)) g5_f1 ⟨rfl, rfl⟩⟩) ?_
        refine xd_pure 1 (some 27) rfl rfl (by kernel_rfl) (v := (.pointer (some ⟨w2.heap.size, 2, none⟩))) (.inl ⟨rfl, fun W_ hW_ => ox_fieldAddr (b := w2.heap.size) (o := 0) tF_40_2 rfl ⟨rfl, rfl⟩⟩) ?_
        refine xd_take 2 (some 28) rfl rfl (by kernel_rfl) (v := (.int .i64 h.into)) (.inl ⟨rfl, fun W_ hW_ => ox_load (v := (.int .i64 h.into)) tA_3 rfl ((b2.ext hW_).cell rfl) ⟨rfl, rfl⟩⟩) hS1 ?_
        refine xd_pure 3 (some 29) rfl rfl (by kernel_rfl) (v := (.pointer (some ⟨g3, 0 + h.into.toNat * 3, none⟩))) (.inl ⟨rfl, fun W_ hW_ => ox_indexAddr (b := g3) (o := 0) (i := h.into) tE_105 rfl rfl (by omega) (by omega) ⟨rfl, rfl⟩⟩) ?_
        refine xd_pure 4 (some 30) rfl rfl (by kernel_rfl) (v := (.pointer (some ⟨g3, 0 + h.into.toNat * 3 + 1, none⟩))) (.inl ⟨rfl, fun W_ hW_ => ox_fieldAddr (b := g3) (o := (0 + h.into.toNat * 3)) tF_130_1 rfl ⟨rfl, rfl⟩⟩) ?_
        refine xd_take 5 (some 31) rfl rfl (by kernel_rfl) (v := (.int .i64 (wdL ((rl rb).take h.into.toNat)))) (.inl ⟨rfl, fun W_ hW_ => ox_load (v := (.int .i64 (wdL ((rl rb).take h.into.toNat)))) tA_3 rfl (by simpa using (CellsL.keep (Ext.trans (Ext.chg1 e2 e3 (by omega)) hW_) not_false hcs1).2.1) ⟨rfl, rfl⟩⟩) hS1 ?_
        refine xd_pure 6 (some 32) rfl rfl (by kernel_rfl) (v := (.slice (some ⟨g3, 0, none⟩) ((leafI rb).length) c3)) (.inl ⟨rfl, fun W_ hW_ => ox_move (v := (.slice (some ⟨g3, 0, none⟩) ((leafI rb).length) c3)) g5_f1 ⟨rfl, rfl⟩⟩) ?_
        refine xd_pure 7 (some 33) rfl rfl (by kernel_rfl) (v := (.pointer (some ⟨w2.heap.size, 3, none⟩))) (.inl ⟨rfl, fun W_ hW_ => ox_fieldAddr (b := w2.heap.size) (o := 0) tF_40_3 rfl ⟨rfl, rfl⟩⟩) ?_
        refine xd_take 8 (some 34) rfl rfl (by kernel_rfl) (v := (.int .i64 h.upto)) (.inl ⟨rfl, fun W_ hW_ => ox_load (v := (.int .i64 h.upto)) tA_3 rfl ((b2.ext hW_).cell rfl) ⟨rfl, rfl⟩⟩) hS1 ?_
        refine xd_pure 9 (some 35) rfl rfl (by kernel_rfl) (v := (.int .i64 (h.upto - 1))) (.inl ⟨rfl, fun W_ hW_ => ox_sub64 (a := h.upto) (b := 1) rfl rfl (by omega) ⟨rfl, rfl⟩⟩) ?_
        refine xd_pure 10 (some 36) rfl rfl (by kernel_rfl) (v := (.pointer (some ⟨g3, 0 + (h.upto - 1).toNat * 3, none⟩))) (.inl ⟨rfl, fun W_ hW_ => ox_indexAddr (b := g3) (o := 0) (i := (h.upto - 1)) tE_105 rfl rfl (by omega) (by omega) ⟨rfl, rfl⟩⟩) ?_
        refine xd_pure 11 (some 37) rfl rfl (by kernel_rfl) (v := (.pointer (some ⟨g3, 0 + (h.upto - 1).toNat * 3 + 2, none⟩))) (.inl ⟨rfl, fun W_ hW_ => ox_fieldAddr (b := g3) (o := (0 + (h.upto - 1).toNat * 3)) tF_130_2 rfl ⟨rfl, rfl⟩⟩) ?_
        refine xd_take 12 (some 38) rfl rfl (by kernel_rfl) (v := (.int .i64 (wdL ((rl rb).take h.upto.toNat)))) (.inl ⟨rfl, fun W_ hW_ => ox_load (v := (.int .i64 (wdL ((rl rb).take h.upto.toNat)))) tA_3 rfl (by simpa using (CellsL.keep (Ext.trans (Ext.chg1 e2 e3 (by omega)) hW_) not_false hcs2).2.2.1) ⟨rfl, rfl⟩⟩) hS1 ?_
        refine xd_pure 13 (some 39) rfl rfl (by kernel_rfl) (v := (.agg #[(.int .i64 (wdL ((rl rb).take h.into.toNat))), (.int .i64 (wdL ((rl rb).take h.upto.toNat)))])) (.inl ⟨rfl, fun W_ hW_ => ox_mkStruct (ps := [(0, (.int .i64 (wdL ((rl rb).take h.into.toNat)))), (1, (.int .i64 (wdL ((rl rb).take h.upto.toNat))))]) (cs := #[(.int .i64 (wdL ((rl rb).take h.into.toNat))), (.int .i64 (wdL ((rl rb).take h.upto.toNat)))]) tZ_79 tP_79 rfl (by kernel_rfl) ⟨rfl, rfl⟩⟩) ?_
        refine xd_one 14 (some 8) rfl rfl (by kernel_rfl) rfl (ox_alloc tZ_79 ?_)
        intro w6 e5 z4 b3
        replace b3 : Blk w6 w5.heap.size #[(.int .i64 0), (.int .i64 0)] 79 := b3
        have hS2 : Chg (fun _ => False) w4 w6 := Chg.ext hS1 e5
        refine ⟨.inr fun _ => hS2, ?_⟩
        refine xd_one 15 none rfl rfl (by kernel_rfl) rfl (ox_store (n := 2) (vs := [(.int .i64 (wdL ((rl rb).take h.into.toNat))), (.int .i64 (wdL ((rl rb).take h.upto.toNat)))]) tS_79 rfl (v := (.agg #[(.int .i64 (wdL ((rl rb).take h.into.toNat))), (.int .i64 (wdL ((rl rb).take h.upto.toNat)))])) rfl rfl rfl rfl b3 (Nat.le_of_ble_eq_true rfl) ?_)
        intro w7 e6 z5 b4
        replace b4 : Blk w7 w5.heap.size #[(.int .i64 (wdL ((rl rb).take h.into.toNat))), (.int .i64 (wdL ((rl rb).take h.upto.toNat)))] 79 := blk_full b4 rfl
        refine ⟨.inl (by decide), ?_⟩
        refine xd_done (by kernel_rfl) ?_ _
        refine xc_seq ?_
        refine xc_region ?_
        refine xl_op (P := Try.prog) (some 40) rfl rfl (ox_fieldAddr (b := w5.heap.size) (o := 0) tF_79_0 rfl ?_)
        refine xl_op (P := Try.prog) (some 41) rfl rfl (ox_load (v := (.int .i64 (wdL ((rl rb).take h.into.toNat)))) tA_3 rfl (b4.cell rfl) ?_)
        refine xl_op (P := Try.prog) (some 42) rfl rfl (ox_fieldAddr (b := w5.heap.size) (o := 0) tF_79_1 rfl ?_)
        refine xl_op (P := Try.prog) (some 43) rfl rfl (ox_load (v := (.int .i64 (wdL ((rl rb).take h.upto.toNat)))) tA_3 rfl (b4.cell rfl) ?_)
        refine xl_op (P := Try.prog) (some 44) rfl rfl (ox_lss (k := .i64) (a := (wdL ((rl rb).take h.into.toNat))) (b := (wdL ((rl rb).take h.upto.toNat))) rfl rfl ?_)
        refine xl_op (P := Try.prog) (some 45) rfl rfl (ox_move (v := (.bool (decide ((wdL ((rl rb).take h.into.toNat) : Int) < (wdL ((rl rb).take h.upto.toNat)))))) rfl ?_)
        by_cases h3 : (wdL ((rl rb).take h.into.toNat) : Int) < (wdL ((rl rb).take h.upto.toNat))
        · skip
          have hlt : (spanH (rl rb) h).frm < (spanH (rl rb) h).to := h3
          refine xl_opg (P := Try.prog) (some 46) (j := 5) (b := true) rfl rfl (congrArg some (decide_eq_true h3)) (ox_move (v := (.func (.yield l) #[] #[])) g0_f1 ?_)
          refine xl_opg (P := Try.prog) (some 47) (j := 5) (b := true) rfl rfl (congrArg some (decide_eq_true h3)) (ox_loadN (vs := [(.int .i64 (wdL ((rl rb).take h.into.toNat))), (.int .i64 (wdL ((rl rb).take h.upto.toNat)))]) tA_79 tS_79 rfl rfl ⟨b4.cell rfl, b4.cell rfl, trivial⟩ ?_)
          have hEy := (Ext.chg1 (Ext.trans (Ext.trans (Ext.chg1 e2 e3 (by omega)) e4) e5) e6 (by omega))
          have hsy := hEy.size
          have hoy := o_f1.ext hEy; have ho3y := o3_f1.ext hEy
          have hpf : (spans (rl rb) (H.take k) ++ [spanH (rl rb) h]) <+: spans (rl rb) H := by rw [← spans_yes hh hlt]; exact spans_pre (k + 1)
          refine xl_opg (P := Try.prog) (some 48) (j := 5) (b := true) rfl rfl (congrArg some (decide_eq_true h3)) (ox_callY (al := [(.agg #[(.int .i64 (wdL ((rl rb).take h.into.toNat))), (.int .i64 (wdL ((rl rb).take h.upto.toNat)))])]) rfl rfl (yield_b (by have h9 := hy _ _ X1 w7 hpf (fun b hb => by have := hXW b hb; omega) (hJ _ _ _ _ _ hXW j_f1 (Ext.to hEy) (fun b hb => .inl hb)); exact h9) ?_))
          intro β1 w8 hj1 hx1
          refine xl_opg (P := Try.prog) (some 49) (j := 5) (b := true) rfl rfl (congrArg some (decide_eq_true h3)) (ox_not (b := β1) rfl ?_)
          refine xl_op (P := Try.prog) (some 50) rfl rfl (ox_pick_t (v := (.bool (!β1))) (congrArg Value.bool (decide_eq_true h3)) rfl ?_)
          refine xl_nil ?_
          refine xc_cond (b := (!β1)) rfl (fun h4 => ?_) (fun h4 => ?_)
          · skip
            have h4' := h4
            try simp only [Bool.or_eq_true, Bool.and_eq_true, decide_eq_true_eq, Bool.or_eq_false_iff, Bool.and_eq_false_iff, decide_eq_false_iff_not, Bool.not_eq_true', Bool.not_eq_false'] at h4'
            obtain ⟨hjx, hmi⟩ := hx1 (by simpa using h4)
            refine xc_ret ?_
            change leaves _ _ _ _ _ _ _
            refine leaves_nil (n := 52) (rs := []) (vs := []) rfl trivial ?_
            exact ⟨X1, fun b hb => by have := hXW b hb; have := hmi.size; omega, .inr ⟨_, hpf, hjx⟩⟩
          · skip
            have h4' := h4
            try simp only [Bool.or_eq_true, Bool.and_eq_true, decide_eq_true_eq, Bool.or_eq_false_iff, Bool.and_eq_false_iff, decide_eq_false_iff_not, Bool.not_eq_true', Bool.not_eq_false'] at h4'
            obtain ⟨hji, hmi⟩ := hj1 (by simpa using h4)
            refine xc_skip ?_
            refine xc_region ?_
            refine xl_op (P := Try.prog) (some 51) rfl rfl (ox_add64 (a := ((k : Nat))) (b := 1) g17_f1 rfl (by omega) ?_)
            refine xl_op (P := Try.prog) (some 17) rfl rfl (ox_move (v := (.int .i64 ((k : Nat) + 1))) rfl ?_)
            refine xl_nil ?_
            have hsp := spans_yes hh hlt
            exact ⟨rfl, H.length - (k + 1), by omega, k + 1, by omega, by omega, g0_f1, g5_f1, g15_f1, g16_f1, (by first | exact rfl | exact (congrArg (Value.int .i64) (by omega))), (hoy.keep hmi (fun q hq hh9 => hh9.1 (hX1n q (hn q hq) (hql q hq)))), (ho3y.keep hmi (fun q hq hh9 => hh9.1 (hX1n q (hn3 q hq) (hql3 q hq)))), (by have := hmi.size; have := z_f1; omega), (by rw [hsp]; exact hji)⟩
        · skip
          have hlt : ¬ (spanH (rl rb) h).frm < (spanH (rl rb) h).to := h3
          refine xl_skip (some 46) (j := 5) (b := true) false rfl rfl (congrArg some (decide_eq_false h3)) (by decide) ?_
          refine xl_skip (some 47) (j := 5) (b := true) false rfl rfl (congrArg some (decide_eq_false h3)) (by decide) ?_
          refine xl_skip (some 48) (j := 5) (b := true) false rfl rfl (congrArg some (decide_eq_false h3)) (by decide) ?_
          refine xl_skip (some 49) (j := 5) (b := true) false rfl rfl (congrArg some (decide_eq_false h3)) (by decide) ?_
          refine xl_op (P := Try.prog) (some 50) rfl rfl (ox_pick_f (v := (.bool false)) (congrArg Value.bool (decide_eq_false h3)) rfl ?_)
          refine xl_nil ?_
          refine xc_cond_f rfl ?_
          refine xc_skip ?_
          refine xc_region ?_
          refine xl_op (P := Try.prog) (some 51) rfl rfl (ox_add64 (a := ((k : Nat))) (b := 1) g17_f1 rfl (by omega) ?_)
          refine xl_op (P := Try.prog) (some 17) rfl rfl (ox_move (v := (.int .i64 ((k : Nat) + 1))) rfl ?_)
          refine xl_nil ?_
          have hEy := (Ext.chg1 (Ext.trans (Ext.trans (Ext.chg1 e2 e3 (by omega)) e4) e5) e6 (by omega))
          have hsp := spans_no hh hlt
          exact ⟨rfl, H.length - (k + 1), by omega, k + 1, by omega, by omega, g0_f1, g5_f1, g15_f1, g16_f1, (by first | exact rfl | exact (congrArg (Value.int .i64) (by omega))), (o_f1.ext hEy), (o3_f1.ext hEy), (by have := hEy.size; have := z_f1; omega), (by rw [hsp]; exact hJ _ _ _ _ _ hXW j_f1 (Ext.to hEy) (fun b hb => .inl hb))⟩
    · skip
      refine xc_exit ?_
      change leaves _ _ _ _ _ _ _
      refine leaves_nil (n := 52) (rs := []) (vs := []) rfl trivial ?_
      exact ⟨X1, hXW, .inl (by rw [List.take_of_length_le (by omega)] at j_f1; exact j_f1)⟩

theorem ranges_iter {B bx by_ : Nat} {stv : Value} {X : Nat → Prop} {ra rb : T} {H : List Hk} {w : World} (hH : H = (hunks (ids (leafI ra)) (ids (leafI rb)))) (hbx : Blk w bx #[ra.ptr] 36) (hby : Blk w by_ #[rb.ptr] 36) (hPa : PN stv w ra) (hWa : WF ra) (hsa : sz ra ≤ 4194304) (hPb : PN stv w rb) (hWb : WF rb) (hsb : sz rb ≤ 4194304)
    (hla : ∀ b ∈ blocks ra, b < B) (hlb : ∀ b ∈ blocks rb, b < B) (hXa : X bx ∨ bx < B) (hXb : X by_ ∨ by_ < B) (hX : ∀ b, X b → B ≤ b ∧ b < w.heap.size) (hB : B ≤ w.heap.size) : Iter Try.prog 58 #[.pointer (some ⟨bx, 0, none⟩), .pointer (some ⟨by_, 0, none⟩)] encS B X (spans (rl rb) H) w :=
  Iter.mk (lb := [.pointer (some ⟨bx, 0, none⟩), .pointer (some ⟨by_, 0, none⟩)]) fun l J Jx W hm hJ hJx hy h0 => rng_calls l B bx by_ stv ra rb H X J Jx W hH (hbx.keep hm fun h => hXa.elim h.1 (by have := h.2; omega)) (hby.keep hm fun h => hXb.elim h.1 (by have := h.2; omega))
    (PN.keep hm hPa fun b hb h => by have := hla b hb; have := h.2; omega) hWa hsa (PN.keep hm hPb fun b hb h => by have := hlb b hb; have := h.2; omega) hWb hsb (fun b hb => ⟨(hX b hb).1, by have := (hX b hb).2; have := hm.size; omega⟩) (by have := hm.size; omega) hJ hJx hy h0

end Go.Proofs.Ythhbnodnpajljaa
