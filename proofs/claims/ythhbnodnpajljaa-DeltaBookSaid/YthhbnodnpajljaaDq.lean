/-
  A child, or none. No conditions.
-/
import Derived.Test.YthhbnodnpajljaaVxi
import Derived.Test.YthhbnodnpajljaaRows
import Derived.Test.YthhbnodnpajljaaDsc
import Derived.Test.YthhbnodnpajljaaDb
import Derived.Test.YthhbnodnpajljaaDi
set_option linter.unusedVariables false
set_option linter.unusedSimpArgs false
set_option maxRecDepth 100000
set_option maxHeartbeats 4000000
namespace Go.Proofs.Ythhbnodnpajljaa
open Go Go.RowKit Go.Vx


theorem pf_50 : plainF Try.prog 50 = true := by kernel_rfl
theorem pf_51 : plainF Try.prog 51 = true := by kernel_rfl
theorem pf_52 : plainF Try.prog 52 = true := by kernel_rfl
theorem pf_53 : plainF Try.prog 53 = true := by kernel_rfl
theorem pf_54 : plainF Try.prog 54 = true := by kernel_rfl
theorem pf_55 : plainF Try.prog 55 = true := by kernel_rfl
theorem tE_115 : sliceT Try.prog 115 = some (114, 2, 16, (.agg #[(.pointer none), (.int .i64 0)])) := by kernel_rfl
theorem tE_54 : sliceT Try.prog 54 = some (88, 9, 72, (.agg #[(.int .i64 0), (.int .i64 0), (.int .i64 0), (.int .i64 0), (.int .i64 0), (.int .i64 0), (.int .i64 0), (.int .i64 0), (.int .i64 0)])) := by kernel_rfl
theorem tF_114_0 : fieldT Try.prog 114 0 = some 0 := by kernel_rfl
theorem tF_114_1 : fieldT Try.prog 114 1 = some 1 := by kernel_rfl
theorem tP_114 : placesT Try.prog 114 = some #[(0, 1), (1, 1)] := by kernel_rfl
theorem tP_88 : placesT Try.prog 88 = some #[(0, 1), (1, 1), (2, 1), (3, 1), (4, 1), (5, 4)] := by kernel_rfl
theorem tS_3 : sizeT Try.prog 3 = some 1 := by kernel_rfl
theorem tU_115 : Try.prog.underlying 115 = some (.slice 114) := by kernel_rfl
theorem tZ_114 : zeroOf Try.prog 114 = some (.agg #[(.pointer none), (.int .i64 0)]) := by kernel_rfl
theorem tZ_36 : zeroOf Try.prog 36 = some (.pointer none) := by kernel_rfl
theorem tZ_88 : zeroOf Try.prog 88 = some (.agg #[(.int .i64 0), (.int .i64 0), (.int .i64 0), (.int .i64 0), (.int .i64 0), (.int .i64 0), (.int .i64 0), (.int .i64 0), (.int .i64 0)]) := by kernel_rfl

theorem kid_out (stv : Value) (t : T) (i : Nat) (w : World) (hP : PN stv w t) (hi : t.kids.length ≤ i) :
    Calls Try.prog 52 #[(.pointer (some ⟨t.b, 0, none⟩)), (.int .i64 ((i : Nat)))] w (Ret (fun v w' => v = .tuple #[.pointer none, .bool false] ∧ Ext w w')) := by
  refine calls_xc (n := 24) (f := fun s_ => [(.pointer (some ⟨t.b, 0, none⟩)), (.int .i64 ((i : Nat)))].getD s_ undef) Try.func52 rfl rfl (by simp) (fun s_ => by simp) ?_
  refine xc_seq ?_
  refine xc_region ?_
  refine xl_op (P := Try.prog) (some 4) rfl rfl (ox_assign (v := (.pointer none)) rfl ?_)
  refine xl_op (P := Try.prog) (some 5) rfl rfl (ox_assign (v := (.bool false)) rfl ?_)
  refine xl_nil ?_
  refine xc_seq ?_
  refine xc_seq ?_
  refine xc_region ?_
  refine xl_op (P := Try.prog) (some 6) rfl rfl (ox_move (v := (.int .i64 ((i : Nat)))) rfl ?_)
  refine xl_op (P := Try.prog) (some 7) rfl rfl (ox_lss (k := .i64) (a := ((i : Nat))) (b := 0) rfl rfl ?_)
  refine xl_op (P := Try.prog) (some 8) rfl rfl (ox_move (v := (.bool (decide (((i : Nat) : Int) < 0)))) rfl ?_)
  refine xl_may (P := Try.prog) (some 9) (j := 2) (b := false) (((decide (((i : Nat) : Int) < 0))) = false) (.bool (decide (((i : Nat) : Int) < 0))) (.int .i64 ((i : Nat))) rfl rfl rfl (may_b ((decide (((i : Nat) : Int) < 0))) false) (fun hp => ox_move (v := (.int .i64 ((i : Nat)))) rfl ⟨rfl, rfl⟩) ?_
  refine xl_may (P := Try.prog) (some 10) (j := 2) (b := false) (((decide (((i : Nat) : Int) < 0))) = false) (.bool (decide (((i : Nat) : Int) < 0))) (.pointer (some ⟨t.b, 0, none⟩)) rfl rfl rfl (may_b ((decide (((i : Nat) : Int) < 0))) false) (fun hp => ox_move (v := (.pointer (some ⟨t.b, 0, none⟩))) rfl ⟨rfl, rfl⟩) ?_
  refine xl_may (P := Try.prog) (some 11) (j := 2) (b := false) (((decide (((i : Nat) : Int) < 0))) = false) (.bool (decide (((i : Nat) : Int) < 0))) (.pointer (some ⟨t.b, 0, none⟩)) rfl rfl rfl (may_b ((decide (((i : Nat) : Int) < 0))) false) (fun hp => ox_nilCheck (p := ⟨t.b, 0, none⟩) (if_pos (α := Value) (t := (.pointer (some ⟨t.b, 0, none⟩))) (e := undef) hp) ⟨rfl, rfl⟩) ?_
  refine xl_may (P := Try.prog) (some 12) (j := 2) (b := false) (((decide (((i : Nat) : Int) < 0))) = false) (.bool (decide (((i : Nat) : Int) < 0))) (.pointer (some ⟨t.b, 8, none⟩)) rfl rfl rfl (may_b ((decide (((i : Nat) : Int) < 0))) false) (fun hp => ox_fieldAddr (b := t.b) (o := 0) tF_124_5 (if_pos (α := Value) (t := (.pointer (some ⟨t.b, 0, none⟩))) (e := undef) hp) ⟨rfl, rfl⟩) ?_
  refine xl_may (P := Try.prog) (some 13) (j := 2) (b := false) (((decide (((i : Nat) : Int) < 0))) = false) (.bool (decide (((i : Nat) : Int) < 0))) (.slice ((t.ka.map fun k => ⟨k, 0, none⟩)) t.kids.length t.kc) rfl rfl rfl (may_b ((decide (((i : Nat) : Int) < 0))) false) (fun hp => ox_load (v := (.slice ((t.ka.map fun k => ⟨k, 0, none⟩)) t.kids.length t.kc)) tA_28 (if_pos (α := Value) (t := (.pointer (some ⟨t.b, 8, none⟩))) (e := undef) hp) (hP.blk.cell rfl) ⟨rfl, rfl⟩) ?_
  refine xl_may (P := Try.prog) (some 14) (j := 2) (b := false) (((decide (((i : Nat) : Int) < 0))) = false) (.bool (decide (((i : Nat) : Int) < 0))) (.int .i64 (((t.kids.length : Nat) : Int))) rfl rfl rfl (may_b ((decide (((i : Nat) : Int) < 0))) false) (fun hp => ox_len (A := ((t.ka.map fun k => ⟨k, 0, none⟩))) (n := t.kids.length) (cp := t.kc) rfl tU_28 (if_pos (α := Value) (t := (.slice ((t.ka.map fun k => ⟨k, 0, none⟩)) t.kids.length t.kc)) (e := undef) hp) ⟨rfl, rfl⟩) ?_
  refine xl_may (P := Try.prog) (some 15) (j := 2) (b := false) (((decide (((i : Nat) : Int) < 0))) = false) (.bool (decide (((i : Nat) : Int) < 0))) (.bool (decide ((((t.kids.length : Nat) : Int) : Int) ≤ ((i : Nat))))) rfl rfl rfl (may_b ((decide (((i : Nat) : Int) < 0))) false) (fun hp => ox_geq (k := .i64) (a := ((i : Nat))) (b := (((t.kids.length : Nat) : Int))) (if_pos (α := Value) (t := (.int .i64 ((i : Nat)))) (e := undef) hp) (if_pos (α := Value) (t := (.int .i64 (((t.kids.length : Nat) : Int)))) (e := undef) hp) ⟨rfl, rfl⟩) ?_
  refine xl_op (P := Try.prog) (some 16) rfl rfl (ox_pick_or (a := ((decide (((i : Nat) : Int) < 0)))) (b := ((decide ((((t.kids.length : Nat) : Int) : Int) ≤ ((i : Nat)))))) rfl rfl (fun ha => (if_pos (α := Value) (t := (.bool (decide ((((t.kids.length : Nat) : Int) : Int) ≤ ((i : Nat)))))) (e := undef) ha)) ?_)
  refine xl_nil ?_
  refine xc_cond (b := (((decide (((i : Nat) : Int) < 0))) || ((decide ((((t.kids.length : Nat) : Int) : Int) ≤ ((i : Nat))))))) rfl (fun h1 => ?_) (fun h1 => ?_)
  · skip
    refine xc_seq ?_
    refine xc_region ?_
    refine xl_op (P := Try.prog) (some 4) rfl rfl (ox_assign (v := (.pointer none)) rfl ?_)
    refine xl_op (P := Try.prog) (some 5) rfl rfl (ox_assign (v := (.bool false)) rfl ?_)
    refine xl_nil ?_
    refine xc_ret ?_
    change leaves _ _ _ _ _ _ _
    refine leaves_nil (n := 24) (rs := [.tmp 4, .tmp 5]) (vs := [(.pointer none), (.bool false)]) rfl ⟨⟨by decide, rfl⟩, ⟨by decide, rfl⟩, trivial⟩ ?_
    first | exact ⟨rfl, (Chg.refl _ _)⟩ | (exfalso; simp at *; omega)
  · exfalso; simp only [Bool.or_eq_false_iff, decide_eq_false_iff_not] at h1; omega

theorem kid_calls (stv : Value) (t : T) (i : Nat) (w : World) (hP : PN stv w t) (hl : t.kids.length ≤ 4194304) :
    Calls Try.prog 52 #[.pointer (some ⟨t.b, 0, none⟩), .int .i64 (i : Nat)] w (Ret fun v w' => ∃ (o : Option Addr) (b : Bool), v = .tuple #[.pointer o, .bool b] ∧ (b = true → ∃ u, t.kids[i]? = some u ∧ o = some ⟨u.b, 0, none⟩) ∧ (b = false → t.kids.length ≤ i) ∧ Ext w w') := by
  cases hu : t.kids[i]? with
  | none =>
    have hi : t.kids.length ≤ i := List.getElem?_eq_none_iff.1 hu
    refine ret_mono (kid_out stv t i w hP hi) ?_
    rintro _ w' ⟨rfl, he⟩
    exact ⟨none, false, rfl, (fun h => by cases h), fun _ => hi, he⟩
  | some u =>
    obtain ⟨k, hk⟩ := hP.ka_some (by intro h; rw [h] at hu; simp at hu)
    refine ret_mono (kid_in stv t u k i w hP hk hu hl) ?_
    rintro _ w' ⟨rfl, he⟩
    exact ⟨some ⟨u.b, 0, none⟩, true, rfl, fun _ => ⟨u, rfl, rfl⟩, (fun h => by cases h), he⟩

theorem script_calls (stv : Value) (ra rb : T) (w : World) (hPa : PN stv w ra) (hWa : WF ra) (hsa : sz ra ≤ 4194304) (hPb : PN stv w rb) (hWb : WF rb) (hsb : sz rb ≤ 4194304) :
    Calls Try.prog 24 #[(.pointer (some ⟨ra.b, 0, none⟩)), (.pointer (some ⟨rb.b, 0, none⟩))] w (Ret (fun v w' => ∃ A c, v = .slice A (script (fun k => (lookM (kn (walkT 0 ra)) k).isSome) rb).length c ∧ Vx.Own w' 88 9 (.slice A (script (fun k => (lookM (kn (walkT 0 ra)) k).isSome) rb).length c) (script (fun k => (lookM (kn (walkT 0 ra)) k).isSome) rb).length (opC (script (fun k => (lookM (kn (walkT 0 ra)) k).isSome) rb)) ∧ (∀ k, (Value.slice A (script (fun k => (lookM (kn (walkT 0 ra)) k).isSome) rb).length c).ownBlock = some k → w.heap.size ≤ k) ∧ Ext w w')) := by
  refine calls_xc (n := 127) (f := fun s_ => [(.pointer (some ⟨ra.b, 0, none⟩)), (.pointer (some ⟨rb.b, 0, none⟩))].getD s_ undef) Try.func24 rfl rfl (by simp) (fun s_ => by simp) ?_
  refine xc_seq ?_
  refine xc_region ?_
  refine xl_op (P := Try.prog) (some 4) rfl rfl (ox_assign (v := (.slice none 0 0)) rfl ?_)
  refine xl_nil ?_
  refine xc_seq ?_
  refine xc_region ?_
  refine xl_op (P := Try.prog) (some 15) rfl rfl (ox_move (v := (.pointer (some ⟨ra.b, 0, none⟩))) rfl ?_)
  refine xl_op (P := Try.prog) (some 16) rfl rfl (ox_callE (al := [(.pointer (some ⟨ra.b, 0, none⟩))]) pf_50 rfl (ret_mono (known_calls stv ra w hPa hWa hsa) ?_))
  rintro _ w1 ⟨mb, rfl, hlm, hmb, e1⟩
  have he1 := e1.size
  refine xl_op (P := Try.prog) (some 5) rfl rfl (ox_assign (v := (.map (some mb))) rfl ?_)
  refine xl_nil ?_
  refine xc_seq ?_
  refine xc_region ?_
  refine xl_op (P := Try.prog) (some 6) rfl rfl (ox_assign (v := (.slice none 0 0)) rfl ?_)
  refine xl_nil ?_
  refine xc_seq ?_
  refine xc_region ?_
  refine xl_op (P := Try.prog) (some 17) rfl rfl (ox_move (v := (.pointer (some ⟨rb.b, 0, none⟩))) rfl ?_)
  refine xl_op (P := Try.prog) (some 18) rfl rfl (ox_mkStruct (ps := [(0, (.pointer (some ⟨rb.b, 0, none⟩)))]) (cs := #[(.pointer (some ⟨rb.b, 0, none⟩)), (.int .i64 0)]) tZ_114 tP_114 rfl (by kernel_rfl) ?_)
  refine xl_op (P := Try.prog) (some 19) rfl rfl (ox_mkSlice (ps := [(0, (.agg #[(.pointer (some ⟨rb.b, 0, none⟩)), (.int .i64 0)]))]) (zs := #[(.pointer none), (.int .i64 0)]) (cs := #[(.pointer (some ⟨rb.b, 0, none⟩)), (.int .i64 0)]) tE_115 rfl (by decide) (by kernel_rfl) (by kernel_rfl) ?_)
  intro w2 e2 z1 b1
  replace b1 : Blk w2 w1.heap.size #[(.pointer (some ⟨rb.b, 0, none⟩)), (.int .i64 0)] 114 := b1
  refine xl_op (P := Try.prog) (some 7) rfl rfl (ox_assign (v := (.slice (some ⟨w1.heap.size, 0, none⟩) 1 1)) rfl ?_)
  refine xl_nil ?_
  refine xc_seq ?_
  refine xc_block ?_
  have hq0 := b1
  have hlq := e1.size
  refine xc_loopN (fun m f W => ∃ (st : List (T × Nat)) (out : List OpD) (As : Option Addr) (cs : Nat) (Ao : Option Addr) (co : Nat), m = (scM st).toNat ∧ ((∀ p ∈ st, PN stv w p.1 ∧ WF p.1 ∧ sz p.1 ≤ sz rb) ∧ scM st ≤ 2 * sz rb + 1) ∧ script (fun k => (lookM (kn (walkT 0 ra)) k).isSome) rb = out ++ scR (fun k => (lookM (kn (walkT 0 ra)) k).isSome) st ∧ f 5 = (.map (some mb)) ∧ f 6 = (.slice Ao out.length co) ∧ f 7 = (.slice As st.length cs) ∧ Vx.Own W 114 2 (.slice As st.length cs) st.length (stC st) ∧ Vx.Own W 88 9 (.slice Ao out.length co) out.length (opC out) ∧ (∀ k, ((.slice As st.length cs) : Value).ownBlock = some k → w.heap.size ≤ k) ∧ (∀ k, ((.slice Ao out.length co) : Value).ownBlock = some k → w.heap.size ≤ k) ∧ MapB encI W mb (kn (walkT 0 ra)) ∧ Ext w W) ((scM [(rb, 0)]).toNat) ?_ ?_
  · exact ⟨[(rb, 0)], [], some ⟨w1.heap.size, 0, none⟩, 1, none, 0, by rfl, by exact ⟨fun p hp => by simp at hp; subst hp; exact ⟨hPb, hWb, Int.le_refl _⟩, by have := sz_kids rb; simp only [scM, List.drop_zero]; omega⟩, by simp [scR, scFrom], rfl, rfl, rfl, (by simpa [stC, T.ptr] using Vx.Own.lit (n := 1) (sz := 2) hq0 rfl (by decide)), (Vx.Own.nil _ _ _), (fun k hk => by simp [Value.ownBlock] at hk; omega), (by simp [Value.ownBlock]), (hmb.ext e2), (Ext.trans e1 e2)⟩
  · rintro m f1 w3 ⟨st, out, As, cs, Ao, co, hm, hgood, hout, g5_f1, g6_f1, g7_f1, S_f1, O_f1, lS_f1, lO_f1, map_mb_f1, e_f1⟩
    have hzE := e_f1.size
    have hlen : out.length ≤ 4194304 := by have h1 := script_len (fun k => (lookM (kn (walkT 0 ra)) k).isSome) rb; have h2 := congrArg List.length hout; rw [List.length_append] at h2; omega
    have hstl := scM_nonneg st
    refine xc_seq ?_
    refine xc_seq ?_
    refine xc_region ?_
    refine xl_op (P := Try.prog) (some 20) rfl rfl (ox_move (v := (.slice As st.length cs)) g7_f1 ?_)
    refine xl_op (P := Try.prog) (some 21) rfl rfl (ox_len (A := As) (n := st.length) (cp := cs) rfl tU_115 rfl ?_)
    refine xl_op (P := Try.prog) (some 22) rfl rfl (ox_gtr (k := .i64) (a := (((st.length : Nat) : Int))) (b := 0) rfl rfl ?_)
    refine xl_nil ?_
    refine xc_if (p := (0 : Int) < (((st.length : Nat) : Int))) rfl (fun h1 => ?_) (fun h1 => ?_)
    · skip
      obtain ⟨⟨x, j⟩, st', hst⟩ : ∃ p st', st = p :: st' := by cases st with | nil => simp at h1 | cons p st' => exact ⟨p, st', rfl⟩
      obtain ⟨g, cap, heq, hcap⟩ := S_f1.some_of (by omega)
      simp only [Value.slice.injEq, true_and] at heq
      obtain ⟨rfl, rfl⟩ := heq
      have hl1 : st.length = st'.length + 1 := by rw [hst]; rfl
      have hoff : 0 + (((st.length : Nat) : Int) - 1).toNat * 2 = st'.length * 2 := by omega
      have hSx : stC st = stC st' ++ [x.ptr, .int .i64 (j : Nat)] := by rw [hst, stC_cons]
      have hcs := S_f1.cells (o := st'.length * 2) (vs := [x.ptr, .int .i64 (j : Nat)]) (by intro q v hv; rw [hSx, ← stC_len st', List.getElem?_append_right (by omega)]; simpa using hv)
      have hcN : w3.cell? ⟨g, 0 + (((st.length : Nat) : Int) - 1).toNat * 2, none⟩ = some x.ptr := by rw [hoff]; exact hcs.1
      have hcJ : w3.cell? ⟨g, 0 + (((st.length : Nat) : Int) - 1).toNat * 2 + 1, none⟩ = some (.int .i64 (j : Nat)) := by rw [hoff]; exact hcs.2.1
      have hgx := hgood.1 (x, j) (by rw [hst]; exact .head _)
      have hlowx : ∀ b ∈ blocks x, b < w.heap.size := PN.lt hgx.1
      have hsk := sz_kids x; have hkl := szL_len x.kids; have hszx : sz x ≤ sz rb := hgx.2.2
      have hg' : (∀ p ∈ st', PN stv w p.1 ∧ WF p.1 ∧ sz p.1 ≤ sz rb) := fun p hp => hgood.1 p (by rw [hst]; exact .tail _ hp)
      have hmst : scM st = 1 + 2 * szL (x.kids.drop j) + scM st' := by rw [hst]; rfl
      have hdk := szL_nonneg (x.kids.drop j)
      have hsR : scR (fun k => (lookM (kn (walkT 0 ra)) k).isSome) st = scFrom (fun k => (lookM (kn (walkT 0 ra)) k).isSome) (x, j) ++ scR (fun k => (lookM (kn (walkT 0 ra)) k).isSome) st' := by rw [hst]; rfl
      have hlg := lS_f1 g rfl
      have hgO : ¬ ((.slice Ao out.length co) : Value).ownBlock = some g := fun hh => (S_f1).ne_own (O_f1) (by decide) g rfl hh
      have hgl : g < w3.heap.size := (S_f1).lt g rfl
      have hpx : PN stv w3 x := hgx.1.ext e_f1
      refine xc_skip ?_
      refine xc_block ?_
      refine xc_seq ?_
      refine xc_region ?_
      refine xl_op (P := Try.prog) (some 23) rfl rfl (ox_move (v := (.slice (some ⟨g, 0, none⟩) st.length cs)) g7_f1 ?_)
      refine xl_op (P := Try.prog) (some 24) rfl rfl (ox_move (v := (.slice (some ⟨g, 0, none⟩) st.length cs)) g7_f1 ?_)
      refine xl_op (P := Try.prog) (some 25) rfl rfl (ox_len (A := (some ⟨g, 0, none⟩)) (n := st.length) (cp := cs) rfl tU_115 rfl ?_)
      refine xl_op (P := Try.prog) (some 26) rfl rfl (ox_sub64 (a := (((st.length : Nat) : Int))) (b := 1) rfl rfl (by omega) ?_)
      refine xl_op (P := Try.prog) (some 27) rfl rfl (ox_indexAddr (b := g) (o := 0) (i := (((st.length : Nat) : Int) - 1)) tE_115 rfl rfl (by omega) (by omega) ?_)
      refine xl_op (P := Try.prog) (some 8) rfl rfl (ox_assign (v := (.pointer (some ⟨g, 0 + (((st.length : Nat) : Int) - 1 : Int).toNat * 2, none⟩))) rfl ?_)
      refine xl_nil ?_
      refine xc_seq ?_
      refine xc_seq ?_
      refine xc_region ?_
      refine xl_op (P := Try.prog) (some 28) rfl rfl (ox_move (v := (.pointer (some ⟨g, 0 + (((st.length : Nat) : Int) - 1 : Int).toNat * 2, none⟩))) rfl ?_)
      refine xl_op (P := Try.prog) (some 29) rfl rfl (ox_nilCheck (p := ⟨g, 0 + (((st.length : Nat) : Int) - 1 : Int).toNat * 2, none⟩) rfl ?_)
      refine xl_op (P := Try.prog) (some 30) rfl rfl (ox_fieldAddr (b := g) (o := (0 + (((st.length : Nat) : Int) - 1 : Int).toNat * 2)) tF_114_1 rfl ?_)
      refine xl_op (P := Try.prog) (some 31) rfl rfl (ox_load (v := (.int .i64 ((j : Nat)))) tA_3 rfl hcJ ?_)
      refine xl_op (P := Try.prog) (some 32) rfl rfl (ox_eql (k := .i64) (a := ((j : Nat))) (b := 0) rfl rfl ?_)
      refine xl_nil ?_
      refine xc_if (p := ((j : Nat) : Int) = 0) rfl (fun h2 => ?_) (fun h2 => ?_)
      · skip
        have hj0 : j = 0 := by omega
        refine xc_seq ?_
        refine xc_seq ?_
        refine xc_region ?_
        refine xl_op (P := Try.prog) (some 34) rfl rfl (ox_move (v := (.map (some mb))) g5_f1 ?_)
        refine xl_op (P := Try.prog) (some 35) rfl rfl (ox_move (v := (.pointer (some ⟨g, 0 + (((st.length : Nat) : Int) - 1 : Int).toNat * 2, none⟩))) rfl ?_)
        refine xl_op (P := Try.prog) (some 36) rfl rfl (ox_nilCheck (p := ⟨g, 0 + (((st.length : Nat) : Int) - 1 : Int).toNat * 2, none⟩) rfl ?_)
        refine xl_op (P := Try.prog) (some 37) rfl rfl (ox_fieldAddr (b := g) (o := (0 + (((st.length : Nat) : Int) - 1 : Int).toNat * 2)) tF_114_0 rfl ?_)
        refine xl_op (P := Try.prog) (some 38) rfl rfl (ox_load (v := (.pointer (some ⟨x.b, 0, none⟩))) tA_36 rfl hcN ?_)
        refine xl_op (P := Try.prog) (some 39) rfl rfl (ox_callE (al := [(.pointer (some ⟨x.b, 0, none⟩))]) pf_40 rfl (ret_mono (number_calls stv x _ hpx) ?_))
        rintro _ _ ⟨rfl, rfl⟩
        refine xl_op (P := Try.prog) (some 40) rfl rfl (ox_lookup2V (enc := (fun i : Int => .int .i64 i)) ((lookM (kn (walkT 0 ra)) x.id).getD (.pointer none)) ((lookM (kn (walkT 0 ra)) x.id).isSome) (keyT_int tU_3) tU_111 tZ_36 map_mb_f1 rfl rfl rfl rfl ?_)
        refine xl_op (P := Try.prog) (some 33) rfl rfl (ox_move (v := (.tuple #[((lookM (kn (walkT 0 ra)) x.id).getD (.pointer none)), (.bool ((lookM (kn (walkT 0 ra)) x.id).isSome))])) rfl ?_)
        refine xl_op (P := Try.prog) (some 41) rfl rfl (ox_extract (vs := #[((lookM (kn (walkT 0 ra)) x.id).getD (.pointer none)), (.bool ((lookM (kn (walkT 0 ra)) x.id).isSome))]) (v := ((lookM (kn (walkT 0 ra)) x.id).getD (.pointer none))) rfl rfl ?_)
        refine xl_op (P := Try.prog) (some 42) rfl rfl (ox_extract (vs := #[((lookM (kn (walkT 0 ra)) x.id).getD (.pointer none)), (.bool ((lookM (kn (walkT 0 ra)) x.id).isSome))]) (v := (.bool ((lookM (kn (walkT 0 ra)) x.id).isSome))) rfl rfl ?_)
        refine xl_op (P := Try.prog) (some 9) rfl rfl (ox_assign (v := ((lookM (kn (walkT 0 ra)) x.id).getD (.pointer none))) rfl ?_)
        refine xl_op (P := Try.prog) (some 10) rfl rfl (ox_assign (v := (.bool ((lookM (kn (walkT 0 ra)) x.id).isSome))) rfl ?_)
        refine xl_nil ?_
        refine xc_seq ?_
        refine xc_region ?_
        refine xl_op (P := Try.prog) (some 43) rfl rfl (ox_move (v := (.bool ((lookM (kn (walkT 0 ra)) x.id).isSome))) rfl ?_)
        refine xl_nil ?_
        refine xc_cond (b := ((lookM (kn (walkT 0 ra)) x.id).isSome)) rfl (fun h3 => ?_) (fun h3 => ?_)
        · skip
          have h3' := h3
          try simp only [Bool.or_eq_true, Bool.and_eq_true, decide_eq_true_eq, Bool.or_eq_false_iff, Bool.and_eq_false_iff, decide_eq_false_iff_not, Bool.not_eq_true', Bool.not_eq_false'] at h3'
          have hhas : (fun k => (lookM (kn (walkT 0 ra)) k).isSome) x.id = true := h3
          refine xc_seq ?_
          refine xc_region ?_
          refine xl_op (P := Try.prog) (some 44) rfl rfl (ox_move (v := (.slice Ao out.length co)) g6_f1 ?_)
          refine xl_op (P := Try.prog) (some 45) rfl rfl (ox_move (v := (.pointer (some ⟨g, 0 + (((st.length : Nat) : Int) - 1 : Int).toNat * 2, none⟩))) rfl ?_)
          refine xl_op (P := Try.prog) (some 46) rfl rfl (ox_nilCheck (p := ⟨g, 0 + (((st.length : Nat) : Int) - 1 : Int).toNat * 2, none⟩) rfl ?_)
          refine xl_op (P := Try.prog) (some 47) rfl rfl (ox_fieldAddr (b := g) (o := (0 + (((st.length : Nat) : Int) - 1 : Int).toNat * 2)) tF_114_0 rfl ?_)
          refine xl_op (P := Try.prog) (some 48) rfl rfl (ox_load (v := (.pointer (some ⟨x.b, 0, none⟩))) tA_36 rfl hcN ?_)
          refine xl_op (P := Try.prog) (some 49) rfl rfl (ox_callE (al := [(.pointer (some ⟨x.b, 0, none⟩))]) pf_40 rfl (ret_mono (number_calls stv x _ hpx) ?_))
          rintro _ _ ⟨rfl, rfl⟩
          refine xl_op (P := Try.prog) (some 50) rfl rfl (ox_mkStruct (ps := [(0, (.int .i64 1)), (1, (.int .i64 x.id))]) (cs := #[(.int .i64 1), (.int .i64 x.id), (.int .i64 0), (.int .i64 0), (.int .i64 0), (.int .i64 0), (.int .i64 0), (.int .i64 0), (.int .i64 0)]) tZ_88 tP_88 rfl (by kernel_rfl) ?_)
          refine xl_op (P := Try.prog) (some 51) rfl rfl (ox_mkSlice (ps := [(0, (.agg #[(.int .i64 1), (.int .i64 x.id), (.int .i64 0), (.int .i64 0), (.int .i64 0), (.int .i64 0), (.int .i64 0), (.int .i64 0), (.int .i64 0)]))]) (zs := #[(.int .i64 0), (.int .i64 0), (.int .i64 0), (.int .i64 0), (.int .i64 0), (.int .i64 0), (.int .i64 0), (.int .i64 0), (.int .i64 0)]) (cs := #[(.int .i64 1), (.int .i64 x.id), (.int .i64 0), (.int .i64 0), (.int .i64 0), (.int .i64 0), (.int .i64 0), (.int .i64 0), (.int .i64 0)]) tE_54 rfl (by decide) (by kernel_rfl) (by kernel_rfl) ?_)
          intro w4 e3 z2 b2
          replace b2 : Blk w4 w3.heap.size #[(.int .i64 1), (.int .i64 x.id), (.int .i64 0), (.int .i64 0), (.int .i64 0), (.int .i64 0), (.int .i64 0), (.int .i64 0), (.int .i64 0)] 88 := b2
          refine xl_op (P := Try.prog) (some 52) rfl rfl (ox_append (n := out.length) (g := w3.heap.size) (o := 0) (m := 1) (xs := ((opC out))) (news := ([(.int .i64 1), (.int .i64 x.id), (.int .i64 0), (.int .i64 0), (.int .i64 0), (.int .i64 0), (.int .i64 0), (.int .i64 0), (.int .i64 0)])) rfl tE_54 rfl (by decide) (v := (.slice Ao out.length co)) rfl rfl (O_f1.ext e3) rfl b2.all rfl (by omega) (by omega) ?_)
          intro v1 w5 o1 e4 at1 nil1
          have he4 := e4.size
          obtain ⟨A1, c1, rfl, hc1⟩ := o1.shape
          have low1 : ∀ _k, (Value.slice A1 (out.length + 1) c1).ownBlock = some _k → w.heap.size ≤ _k := fun _k _h => by rcases at1 with _e | _e <;> rw [_e] at _h; exact lO_f1 _k _h; exact (by cases _h; omega)
          refine xl_op (P := Try.prog) (some 6) rfl rfl (ox_assign (v := (.slice A1 (out.length + 1) c1)) rfl ?_)
          refine xl_nil ?_
          refine xc_seq ?_
          refine xc_region ?_
          refine xl_op (P := Try.prog) (some 53) rfl rfl (ox_move (v := (.slice (some ⟨g, 0, none⟩) st.length cs)) g7_f1 ?_)
          refine xl_op (P := Try.prog) (some 54) rfl rfl (ox_move (v := (.slice (some ⟨g, 0, none⟩) st.length cs)) g7_f1 ?_)
          refine xl_op (P := Try.prog) (some 55) rfl rfl (ox_len (A := (some ⟨g, 0, none⟩)) (n := st.length) (cp := cs) rfl tU_115 rfl ?_)
          refine xl_op (P := Try.prog) (some 56) rfl rfl (ox_sub64 (a := (((st.length : Nat) : Int))) (b := 1) rfl rfl (by omega) ?_)
          refine xl_op (P := Try.prog) (some 57) rfl rfl (ox_sliceToN (A := (some ⟨g, 0, none⟩)) (cp := cs) (i := (((st.length : Nat) : Int) - 1)) st'.length tE_115 rfl rfl (by omega) (by omega) (by omega) ?_)
          refine xl_op (P := Try.prog) (some 7) rfl rfl (ox_assign (v := (.slice (some ⟨g, 0, none⟩) st'.length cs)) rfl ?_)
          refine xl_nil ?_
          refine xc_exit ?_
          have hO9 := o1
          have q1 := ((S_f1.ext e3).keep e4 (fun _k _hk => (S_f1.ext e3).ne_own (O_f1.ext e3) (by decide) _k _hk))
          have hS9 := q1
          have hsz0 := e3.size
          have hsz1 := e4.size
          have hlp : (out ++ [keepO x.id]).length = out.length + 1 := by simp
          have q2 := ((map_mb_f1.ext e3).keep e4 (fun _h => by rcases (O_f1.ext e3).form with ⟨_e, _⟩ | ⟨_g, _c, _cur, _e, _hb, _⟩ <;> rw [_e] at _h <;> simp [Value.ownBlock] at _h; exact (map_mb_f1.ext e3).ne_blk _hb _h.symm))
          exact ⟨rfl, (scM st').toNat, by omega, st', (out ++ [keepO x.id]), some ⟨g, 0, none⟩, cs, A1, c1, by rfl, ⟨hg', by omega⟩, by rw [hout, hsR, show scFrom (fun k => (lookM (kn (walkT 0 ra)) k).isSome) (x, j) = [keepO x.id] from (by unfold scFrom; rw [if_pos hj0, script_has hhas])]; simp, g5_f1, (by rw [hlp]; rfl), rfl, (by have h8 := hS9.take (m := st'.length) (by omega); rw [hSx, List.take_append_of_le_length (by rw [stC_len]; omega), List.take_of_length_le (by rw [stC_len]; omega)] at h8; exact h8), (by rw [show (out ++ [keepO x.id]).length = out.length + 1 by simp, opC_snoc]; simpa [OpD.cs, keepO, leafO, makeO, lf0] using hO9), (fun k hk => lS_f1 k (ownBlock_len hk)), (fun k hk => low1 k (ownBlock_len hk)), q2, (Chg.trans (Ext.trans e_f1 e3) e4 (fun b hb hl => absurd hl (by have := lO_f1 b hb; omega)))⟩
        · skip
          have h3' := h3
          try simp only [Bool.or_eq_true, Bool.and_eq_true, decide_eq_true_eq, Bool.or_eq_false_iff, Bool.and_eq_false_iff, decide_eq_false_iff_not, Bool.not_eq_true', Bool.not_eq_false'] at h3'
          have hhas : (fun k => (lookM (kn (walkT 0 ra)) k).isSome) x.id = false := h3
          refine xc_skip ?_
          refine xc_seq ?_
          refine xc_region ?_
          refine xl_op (P := Try.prog) (some 59) rfl rfl (ox_move (v := (.pointer (some ⟨g, 0 + (((st.length : Nat) : Int) - 1 : Int).toNat * 2, none⟩))) rfl ?_)
          refine xl_op (P := Try.prog) (some 60) rfl rfl (ox_nilCheck (p := ⟨g, 0 + (((st.length : Nat) : Int) - 1 : Int).toNat * 2, none⟩) rfl ?_)
          refine xl_op (P := Try.prog) (some 61) rfl rfl (ox_fieldAddr (b := g) (o := (0 + (((st.length : Nat) : Int) - 1 : Int).toNat * 2)) tF_114_0 rfl ?_)
          refine xl_op (P := Try.prog) (some 62) rfl rfl (ox_load (v := (.pointer (some ⟨x.b, 0, none⟩))) tA_36 rfl hcN ?_)
          refine xl_op (P := Try.prog) (some 63) rfl rfl (ox_callE (al := [(.pointer (some ⟨x.b, 0, none⟩))]) pf_51 rfl (ret_mono (leafOf_calls stv x w3 hpx) ?_))
          rintro _ w6 ⟨rfl, e5⟩
          have he5 := e5.size
          refine xl_op (P := Try.prog) (some 58) rfl rfl (ox_move (v := (.tuple #[(.agg #[(.int .i64 x.lf.kind), (.int .i64 x.lf.skip), (.int .i64 x.lf.len), (.int .i64 x.lf.reach)]), (.bool (decide (x.kind = 1)))])) rfl ?_)
          refine xl_op (P := Try.prog) (some 64) rfl rfl (ox_extract (vs := #[(.agg #[(.int .i64 x.lf.kind), (.int .i64 x.lf.skip), (.int .i64 x.lf.len), (.int .i64 x.lf.reach)]), (.bool (decide (x.kind = 1)))]) (v := (.agg #[(.int .i64 x.lf.kind), (.int .i64 x.lf.skip), (.int .i64 x.lf.len), (.int .i64 x.lf.reach)])) rfl rfl ?_)
          refine xl_op (P := Try.prog) (some 65) rfl rfl (ox_extract (vs := #[(.agg #[(.int .i64 x.lf.kind), (.int .i64 x.lf.skip), (.int .i64 x.lf.len), (.int .i64 x.lf.reach)]), (.bool (decide (x.kind = 1)))]) (v := (.bool (decide (x.kind = 1)))) rfl rfl ?_)
          refine xl_op (P := Try.prog) (some 11) rfl rfl (ox_alloc tZ_84 ?_)
          intro w7 e6 z3 b3
          replace b3 : Blk w7 w6.heap.size #[(.int .i64 0), (.int .i64 0), (.int .i64 0), (.int .i64 0)] 84 := b3
          refine xl_op (P := Try.prog) none rfl rfl (ox_store (n := 4) (vs := [(.int .i64 x.lf.kind), (.int .i64 x.lf.skip), (.int .i64 x.lf.len), (.int .i64 x.lf.reach)]) tS_84 rfl (v := (.agg #[(.int .i64 x.lf.kind), (.int .i64 x.lf.skip), (.int .i64 x.lf.len), (.int .i64 x.lf.reach)])) rfl rfl rfl rfl b3 (Nat.le_of_ble_eq_true rfl) ?_)
          intro w8 e7 z4 b4
          replace b4 : Blk w8 w6.heap.size #[(.int .i64 x.lf.kind), (.int .i64 x.lf.skip), (.int .i64 x.lf.len), (.int .i64 x.lf.reach)] 84 := blk_full b4 rfl
          refine xl_op (P := Try.prog) (some 12) rfl rfl (ox_assign (v := (.bool (decide (x.kind = 1)))) rfl ?_)
          refine xl_nil ?_
          refine xc_seq ?_
          refine xc_region ?_
          refine xl_op (P := Try.prog) (some 66) rfl rfl (ox_move (v := (.bool (decide (x.kind = 1)))) rfl ?_)
          refine xl_nil ?_
          refine xc_if (p := x.kind = 1) rfl (fun h4 => ?_) (fun h4 => ?_)
          · skip
            refine xc_seq ?_
            refine xc_region ?_
            refine xl_op (P := Try.prog) (some 67) rfl rfl (ox_move (v := (.slice Ao out.length co)) g6_f1 ?_)
            refine xl_op (P := Try.prog) (some 68) rfl rfl (ox_loadN (vs := [(.int .i64 x.lf.kind), (.int .i64 x.lf.skip), (.int .i64 x.lf.len), (.int .i64 x.lf.reach)]) tA_84 tS_84 rfl rfl ⟨b4.cell rfl, b4.cell rfl, b4.cell rfl, b4.cell rfl, trivial⟩ ?_)
            refine xl_op (P := Try.prog) (some 69) rfl rfl (ox_mkStruct (ps := [(0, (.int .i64 2)), (5, (.agg #[(.int .i64 x.lf.kind), (.int .i64 x.lf.skip), (.int .i64 x.lf.len), (.int .i64 x.lf.reach)]))]) (cs := #[(.int .i64 2), (.int .i64 0), (.int .i64 0), (.int .i64 0), (.int .i64 0), (.int .i64 x.lf.kind), (.int .i64 x.lf.skip), (.int .i64 x.lf.len), (.int .i64 x.lf.reach)]) tZ_88 tP_88 rfl (by kernel_rfl) ?_)
            refine xl_op (P := Try.prog) (some 70) rfl rfl (ox_mkSlice (ps := [(0, (.agg #[(.int .i64 2), (.int .i64 0), (.int .i64 0), (.int .i64 0), (.int .i64 0), (.int .i64 x.lf.kind), (.int .i64 x.lf.skip), (.int .i64 x.lf.len), (.int .i64 x.lf.reach)]))]) (zs := #[(.int .i64 0), (.int .i64 0), (.int .i64 0), (.int .i64 0), (.int .i64 0), (.int .i64 0), (.int .i64 0), (.int .i64 0), (.int .i64 0)]) (cs := #[(.int .i64 2), (.int .i64 0), (.int .i64 0), (.int .i64 0), (.int .i64 0), (.int .i64 x.lf.kind), (.int .i64 x.lf.skip), (.int .i64 x.lf.len), (.int .i64 x.lf.reach)]) tE_54 rfl (by decide) (by kernel_rfl) (by kernel_rfl) ?_)
            intro w9 e8 z5 b5
            replace b5 : Blk w9 w8.heap.size #[(.int .i64 2), (.int .i64 0), (.int .i64 0), (.int .i64 0), (.int .i64 0), (.int .i64 x.lf.kind), (.int .i64 x.lf.skip), (.int .i64 x.lf.len), (.int .i64 x.lf.reach)] 88 := b5
            have q3 := (((O_f1.ext e5).ext e6).keep1 e7 (fun k hk => ((O_f1.ext e5).ext e6).ne_blk b3 (by decide) k hk))
            refine xl_op (P := Try.prog) (some 71) rfl rfl (ox_append (n := out.length) (g := w8.heap.size) (o := 0) (m := 1) (xs := ((opC out))) (news := ([(.int .i64 2), (.int .i64 0), (.int .i64 0), (.int .i64 0), (.int .i64 0), (.int .i64 x.lf.kind), (.int .i64 x.lf.skip), (.int .i64 x.lf.len), (.int .i64 x.lf.reach)])) rfl tE_54 rfl (by decide) (v := (.slice Ao out.length co)) rfl rfl (q3.ext e8) rfl b5.all rfl (by omega) (by omega) ?_)
            intro v2 w10 o2 e9 at2 nil2
            have he9 := e9.size
            obtain ⟨A2, c2, rfl, hc2⟩ := o2.shape
            have low2 : ∀ _k, (Value.slice A2 (out.length + 1) c2).ownBlock = some _k → w.heap.size ≤ _k := fun _k _h => by rcases at2 with _e | _e <;> rw [_e] at _h; exact lO_f1 _k _h; exact (by cases _h; omega)
            refine xl_op (P := Try.prog) (some 6) rfl rfl (ox_assign (v := (.slice A2 (out.length + 1) c2)) rfl ?_)
            refine xl_nil ?_
            refine xc_seq ?_
            refine xc_region ?_
            refine xl_op (P := Try.prog) (some 72) rfl rfl (ox_move (v := (.slice (some ⟨g, 0, none⟩) st.length cs)) g7_f1 ?_)
            refine xl_op (P := Try.prog) (some 73) rfl rfl (ox_move (v := (.slice (some ⟨g, 0, none⟩) st.length cs)) g7_f1 ?_)
            refine xl_op (P := Try.prog) (some 74) rfl rfl (ox_len (A := (some ⟨g, 0, none⟩)) (n := st.length) (cp := cs) rfl tU_115 rfl ?_)
            refine xl_op (P := Try.prog) (some 75) rfl rfl (ox_sub64 (a := (((st.length : Nat) : Int))) (b := 1) rfl rfl (by omega) ?_)
            refine xl_op (P := Try.prog) (some 76) rfl rfl (ox_sliceToN (A := (some ⟨g, 0, none⟩)) (cp := cs) (i := (((st.length : Nat) : Int) - 1)) st'.length tE_115 rfl rfl (by omega) (by omega) (by omega) ?_)
            refine xl_op (P := Try.prog) (some 7) rfl rfl (ox_assign (v := (.slice (some ⟨g, 0, none⟩) st'.length cs)) rfl ?_)
            refine xl_nil ?_
            refine xc_exit ?_
            have hO9 := o2
            have q4 := (((S_f1.ext e5).ext e6).keep1 e7 (fun k hk => ((S_f1.ext e5).ext e6).ne_blk b3 (by decide) k hk))
            have q5 := ((q4.ext e8).keep e9 (fun _k _hk => (q4.ext e8).ne_own (q3.ext e8) (by decide) _k _hk))
            have hS9 := q5
            have hsz0 := e5.size
            have hsz1 := e6.size
            have hsz2 := e7.size
            have hsz3 := e8.size
            have hsz4 := e9.size
            have hlp : (out ++ [leafO x.lf]).length = out.length + 1 := by simp
            have q6 := (((map_mb_f1.ext e5).ext e6).keep1 e7 (fun _h => ((map_mb_f1.ext e5).ext e6).ne_blk b3 _h))
            have q7 := ((q6.ext e8).keep e9 (fun _h => by rcases (q3.ext e8).form with ⟨_e, _⟩ | ⟨_g, _c, _cur, _e, _hb, _⟩ <;> rw [_e] at _h <;> simp [Value.ownBlock] at _h; exact (q6.ext e8).ne_blk _hb _h.symm))
            exact ⟨rfl, (scM st').toNat, by omega, st', (out ++ [leafO x.lf]), some ⟨g, 0, none⟩, cs, A2, c2, by rfl, ⟨hg', by omega⟩, by rw [hout, hsR, show scFrom (fun k => (lookM (kn (walkT 0 ra)) k).isSome) (x, j) = [leafO x.lf] from (by unfold scFrom; rw [if_pos hj0, script_leaf hhas (by omega)])]; simp, g5_f1, (by rw [hlp]; rfl), rfl, (by have h8 := hS9.take (m := st'.length) (by omega); rw [hSx, List.take_append_of_le_length (by rw [stC_len]; omega), List.take_of_length_le (by rw [stC_len]; omega)] at h8; exact h8), (by rw [show (out ++ [leafO x.lf]).length = out.length + 1 by simp, opC_snoc]; simpa [OpD.cs, keepO, leafO, makeO, lf0] using hO9), (fun k hk => lS_f1 k (ownBlock_len hk)), (fun k hk => low2 k (ownBlock_len hk)), q7, (Chg.trans (Ext.trans (Ext.chg1 (Ext.trans (Ext.trans e_f1 e5) e6) e7 (by first | omega | (have := lS_f1 _ rfl; omega))) e8) e9 (fun b hb hl => absurd hl (by have := lO_f1 b hb; omega)))⟩
          · skip
            have hin : scFrom (fun k => (lookM (kn (walkT 0 ra)) k).isSome) (x, j) = scIn (fun k => (lookM (kn (walkT 0 ra)) k).isSome) x j := by unfold scFrom; rw [if_pos hj0, script_node hhas (by omega), hj0]
            refine xc_skip ?_
            refine xc_seq ?_
            refine xc_seq ?_
            refine xc_regionE [8] (fun W_ => Chg (fun _ => False) w8 W_) hmix ?_
            intro w11 e10 z6
            have hS1 : Chg (fun _ => False) w8 w11 := Ext.to e10
            refine xd_pure 0 (some 78) rfl rfl (by kernel_rfl) (v := (.pointer (some ⟨g, 0 + (((st.length : Nat) : Int) - 1 : Int).toNat * 2, none⟩))) (.inl ⟨rfl, fun W_ hW_ => ox_move (v := (.pointer (some ⟨g, 0 + (((st.length : Nat) : Int) - 1 : Int).toNat * 2, none⟩))) rfl ⟨rfl, rfl⟩⟩) ?_
            refine xd_pure 1 (some 79) rfl rfl (by kernel_rfl) (v := (.pointer (some ⟨g, 0 + (((st.length : Nat) : Int) - 1 : Int).toNat * 2, none⟩))) (.inl ⟨rfl, fun W_ hW_ => ox_nilCheck (p := ⟨g, 0 + (((st.length : Nat) : Int) - 1 : Int).toNat * 2, none⟩) rfl ⟨rfl, rfl⟩⟩) ?_
            refine xd_pure 2 (some 80) rfl rfl (by kernel_rfl) (v := (.pointer (some ⟨g, 0 + (((st.length : Nat) : Int) - 1 : Int).toNat * 2, none⟩))) (.inl ⟨rfl, fun W_ hW_ => ox_fieldAddr (b := g) (o := (0 + (((st.length : Nat) : Int) - 1 : Int).toNat * 2)) tF_114_0 rfl ⟨rfl, rfl⟩⟩) ?_
            have q8 := (Chg.cell (Ext.cell (Ext.cell hcN e5) e6) e7 (by intro (hh : g = w6.heap.size); omega))
            refine xd_take 3 (some 81) rfl rfl (by kernel_rfl) (v := (.pointer (some ⟨x.b, 0, none⟩))) (.inl ⟨rfl, fun W_ hW_ => ox_load (v := (.pointer (some ⟨x.b, 0, none⟩))) tA_36 rfl (Ext.cell q8 hW_) ⟨rfl, rfl⟩⟩) hS1 ?_
            refine xd_pure 4 (some 82) rfl rfl (by kernel_rfl) (v := (.pointer (some ⟨g, 0 + (((st.length : Nat) : Int) - 1 : Int).toNat * 2, none⟩))) (.inl ⟨rfl, fun W_ hW_ => ox_move (v := (.pointer (some ⟨g, 0 + (((st.length : Nat) : Int) - 1 : Int).toNat * 2, none⟩))) rfl ⟨rfl, rfl⟩⟩) ?_
            refine xd_pure 5 (some 83) rfl rfl (by kernel_rfl) (v := (.pointer (some ⟨g, 0 + (((st.length : Nat) : Int) - 1 : Int).toNat * 2, none⟩))) (.inl ⟨rfl, fun W_ hW_ => ox_nilCheck (p := ⟨g, 0 + (((st.length : Nat) : Int) - 1 : Int).toNat * 2, none⟩) rfl ⟨rfl, rfl⟩⟩) ?_
            refine xd_pure 6 (some 84) rfl rfl (by kernel_rfl) (v := (.pointer (some ⟨g, 0 + (((st.length : Nat) : Int) - 1 : Int).toNat * 2 + 1, none⟩))) (.inl ⟨rfl, fun W_ hW_ => ox_fieldAddr (b := g) (o := (0 + (((st.length : Nat) : Int) - 1 : Int).toNat * 2)) tF_114_1 rfl ⟨rfl, rfl⟩⟩) ?_
            have q9 := (Chg.cell (Ext.cell (Ext.cell hcJ e5) e6) e7 (by intro (hh : g = w6.heap.size); omega))
            refine xd_take 7 (some 85) rfl rfl (by kernel_rfl) (v := (.int .i64 ((j : Nat)))) (.inl ⟨rfl, fun W_ hW_ => ox_load (v := (.int .i64 ((j : Nat)))) tA_3 rfl (Ext.cell q9 hW_) ⟨rfl, rfl⟩⟩) hS1 ?_
            have q10 := (((hpx.ext e5).ext e6).keep e7 (fun b hb hh => by have := hlowx b hb; omega))
            refine xd_one 8 (some 86) rfl rfl (by kernel_rfl) rfl (ox_callE (al := [(.pointer (some ⟨x.b, 0, none⟩)), (.int .i64 ((j : Nat)))]) pf_52 rfl (ret_mono (kid_calls stv x j w11 (q10.ext e10) (by omega)) ?_))
            rintro _ w12 ⟨ko, kb, rfl, hk1, hk0, e11⟩
            have he11 := e11.size
            refine ⟨.inl (by decide), ?_⟩
            refine xd_pure 9 (some 77) rfl rfl (by kernel_rfl) (v := (.tuple #[(.pointer ko), (.bool kb)])) (.inl ⟨rfl, fun W_ hW_ => ox_move (v := (.tuple #[(.pointer ko), (.bool kb)])) rfl ⟨rfl, rfl⟩⟩) ?_
            refine xd_pure 10 (some 87) rfl rfl (by kernel_rfl) (v := (.pointer ko)) (.inl ⟨rfl, fun W_ hW_ => ox_extract (vs := #[(.pointer ko), (.bool kb)]) (v := (.pointer ko)) rfl rfl ⟨rfl, rfl⟩⟩) ?_
            refine xd_pure 11 (some 88) rfl rfl (by kernel_rfl) (v := (.bool kb)) (.inl ⟨rfl, fun W_ hW_ => ox_extract (vs := #[(.pointer ko), (.bool kb)]) (v := (.bool kb)) rfl rfl ⟨rfl, rfl⟩⟩) ?_
            refine xd_pure 12 (some 13) rfl rfl (by kernel_rfl) (v := (.pointer ko)) (.inl ⟨rfl, fun W_ hW_ => ox_assign (v := (.pointer ko)) rfl ⟨rfl, rfl⟩⟩) ?_
            refine xd_pure 13 (some 14) rfl rfl (by kernel_rfl) (v := (.bool kb)) (.inl ⟨rfl, fun W_ hW_ => ox_assign (v := (.bool kb)) rfl ⟨rfl, rfl⟩⟩) ?_
            refine xd_done (by kernel_rfl) ?_ _
            refine xc_seq ?_
            refine xc_region ?_
            refine xl_op (P := Try.prog) (some 89) rfl rfl (ox_move (v := (.bool kb)) rfl ?_)
            refine xl_nil ?_
            refine xc_cond (b := kb) rfl (fun h5 => ?_) (fun h5 => ?_)
            · skip
              have h5' := h5
              try simp only [Bool.or_eq_true, Bool.and_eq_true, decide_eq_true_eq, Bool.or_eq_false_iff, Bool.and_eq_false_iff, decide_eq_false_iff_not, Bool.not_eq_true', Bool.not_eq_false'] at h5'
              obtain ⟨u, hu, rfl⟩ := hk1 h5
              have hju := get_len hu
              refine xc_seq ?_
              refine xc_region ?_
              refine xl_op (P := Try.prog) (some 90) rfl rfl (ox_move (v := (.pointer (some ⟨g, 0 + (((st.length : Nat) : Int) - 1 : Int).toNat * 2, none⟩))) rfl ?_)
              refine xl_op (P := Try.prog) (some 91) rfl rfl (ox_nilCheck (p := ⟨g, 0 + (((st.length : Nat) : Int) - 1 : Int).toNat * 2, none⟩) rfl ?_)
              refine xl_op (P := Try.prog) (some 92) rfl rfl (ox_fieldAddr (b := g) (o := (0 + (((st.length : Nat) : Int) - 1 : Int).toNat * 2)) tF_114_1 rfl ?_)
              have q11 := (Chg.cell (Ext.cell (Ext.cell hcJ e5) e6) e7 (by intro (hh : g = w6.heap.size); omega))
              refine xl_op (P := Try.prog) (some 93) rfl rfl (ox_load (v := (.int .i64 ((j : Nat)))) tA_3 rfl (Ext.cell (Ext.cell q11 e10) e11) ?_)
              refine xl_op (P := Try.prog) (some 94) rfl rfl (ox_add64 (a := ((j : Nat))) (b := 1) rfl rfl (by omega) ?_)
              refine xl_op (P := Try.prog) (some 95) rfl rfl (ox_nilCheck (p := ⟨g, 0 + (((st.length : Nat) : Int) - 1 : Int).toNat * 2, none⟩) rfl ?_)
              refine xl_op (P := Try.prog) (some 96) rfl rfl (ox_fieldAddr (b := g) (o := (0 + (((st.length : Nat) : Int) - 1 : Int).toNat * 2)) tF_114_1 rfl ?_)
              have q12 := (((S_f1.ext e5).ext e6).keep1 e7 (fun k hk => ((S_f1.ext e5).ext e6).ne_blk b3 (by decide) k hk))
              refine xl_op (P := Try.prog) none rfl rfl (ox_storeO (m := 1) (vs := [(.int .i64 ((j : Nat) + 1))]) tS_3 rfl (v := (.int .i64 ((j : Nat) + 1))) rfl rfl rfl rfl ((q12.ext e10).ext e11) (by omega) ?_)
              intro w13 e12 z7 hS2
              replace hS2 : Vx.Own w13 114 2 (.slice (some ⟨g, 0, none⟩) st.length cs) st.length (stC ((x, j + 1) :: st')) := by rw [hoff, hst] at hS2; have h9 := setL_top st' x j (j + 1); rw [← h9, hst]; exact hS2
              refine xl_nil ?_
              refine xc_seq ?_
              refine xc_region ?_
              refine xl_op (P := Try.prog) (some 97) rfl rfl (ox_move (v := (.slice (some ⟨g, 0, none⟩) st.length cs)) g7_f1 ?_)
              refine xl_op (P := Try.prog) (some 98) rfl rfl (ox_move (v := (.pointer (some ⟨u.b, 0, none⟩))) rfl ?_)
              refine xl_op (P := Try.prog) (some 99) rfl rfl (ox_mkStruct (ps := [(0, (.pointer (some ⟨u.b, 0, none⟩)))]) (cs := #[(.pointer (some ⟨u.b, 0, none⟩)), (.int .i64 0)]) tZ_114 tP_114 rfl (by kernel_rfl) ?_)
              refine xl_op (P := Try.prog) (some 100) rfl rfl (ox_mkSlice (ps := [(0, (.agg #[(.pointer (some ⟨u.b, 0, none⟩)), (.int .i64 0)]))]) (zs := #[(.pointer none), (.int .i64 0)]) (cs := #[(.pointer (some ⟨u.b, 0, none⟩)), (.int .i64 0)]) tE_115 rfl (by decide) (by kernel_rfl) (by kernel_rfl) ?_)
              intro w14 e13 z8 b6
              replace b6 : Blk w14 w13.heap.size #[(.pointer (some ⟨u.b, 0, none⟩)), (.int .i64 0)] 114 := b6
              refine xl_op (P := Try.prog) (some 101) rfl rfl (ox_append (n := st.length) (g := w13.heap.size) (o := 0) (m := 1) (xs := ((stC ((x, j + 1) :: st')))) (news := ([(.pointer (some ⟨u.b, 0, none⟩)), (.int .i64 0)])) rfl tE_115 rfl (by decide) (v := (.slice (some ⟨g, 0, none⟩) st.length cs)) rfl rfl (hS2.ext e13) rfl b6.all rfl (by omega) (by omega) ?_)
              intro v3 w15 o3 e14 at3 nil3
              have he14 := e14.size
              obtain ⟨A3, c3, rfl, hc3⟩ := o3.shape
              have low3 : ∀ _k, (Value.slice A3 (st.length + 1) c3).ownBlock = some _k → w.heap.size ≤ _k := fun _k _h => by rcases at3 with _e | _e <;> rw [_e] at _h; exact lS_f1 _k _h; exact (by cases _h; omega)
              refine xl_op (P := Try.prog) (some 7) rfl rfl (ox_assign (v := (.slice A3 (st.length + 1) c3)) rfl ?_)
              refine xl_nil ?_
              refine xc_exit ?_
              have hpm := scM_push (st := st') hu
              have hsu := szL_mem (List.mem_of_getElem? hu)
              have hms : scM ((x, j) :: st') = scM st := by rw [hst]
              have q13 := (((O_f1.ext e5).ext e6).keep1 e7 (fun k hk => ((O_f1.ext e5).ext e6).ne_blk b3 (by decide) k hk))
              have q14 := (((q13.ext e10).ext e11).keep1 e12 (fun k hk => fun hh => ((q13.ext e10).ext e11).ne_own ((q12.ext e10).ext e11) (by decide) k hk (by rw [hh]; rfl)))
              have q15 := ((q14.ext e13).keep e14 (fun _k _hk => (q14.ext e13).ne_own (hS2.ext e13) (by decide) _k _hk))
              have hO9 := q15
              have hS9 := o3
              have hsz0 := e5.size
              have hsz1 := e6.size
              have hsz2 := e7.size
              have hsz3 := e10.size
              have hsz4 := e11.size
              have hsz5 := e12.size
              have hsz6 := e13.size
              have hsz7 := e14.size
              have hlp : ((u, 0) :: (x, j + 1) :: st').length = st.length + 1 := by simp [hl1]
              have q16 := (((map_mb_f1.ext e5).ext e6).keep1 e7 (fun _h => ((map_mb_f1.ext e5).ext e6).ne_blk b3 _h))
              have q17 := (((q16.ext e10).ext e11).keep1 e12 (fun hh => ((q12.ext e10).ext e11).ne_map ((q16.ext e10).ext e11) _ rfl hh.symm))
              have q18 := ((q17.ext e13).keep e14 (fun _h => by rcases (hS2.ext e13).form with ⟨_e, _⟩ | ⟨_g, _c, _cur, _e, _hb, _⟩ <;> rw [_e] at _h <;> simp [Value.ownBlock] at _h; exact (q17.ext e13).ne_blk _hb _h.symm))
              exact ⟨rfl, (scM ((u, 0) :: (x, j + 1) :: st')).toNat, by omega, ((u, 0) :: (x, j + 1) :: st'), out, A3, c3, Ao, co, by rfl, ⟨fun p hp => by rcases List.mem_cons.1 hp with rfl | hp; exact ⟨hgx.1.kids.get hu, WFL_mem hgx.2.1.kids (List.mem_of_getElem? hu), by show sz u ≤ sz rb; omega⟩; rcases List.mem_cons.1 hp with rfl | hp; exact hgx; exact hg' p hp, by omega⟩, by rw [hout, hsR, hin, scIn_kid hu]; simp [scR, scFrom], g5_f1, g6_f1, (by rw [hlp]; rfl), (by have hl9 : ((u, 0) :: (x, j + 1) :: st').length = st.length + 1 := (by simp [hl1]);     rw [hl9, stC_cons]; exact hS9), hO9, (fun k hk => low3 k (ownBlock_len hk)), (fun k hk => lO_f1 k (ownBlock_len hk)), q18, (Chg.trans (Ext.trans (Ext.chg1 (Ext.trans (Ext.trans (Ext.chg1 (Ext.trans (Ext.trans e_f1 e5) e6) e7 (by first | omega | (have := lS_f1 _ rfl; omega))) e10) e11) e12 (by first | omega | (have := lS_f1 _ rfl; omega))) e13) e14 (fun b hb hl => absurd hl (by have := lS_f1 b hb; omega)))⟩
            · skip
              have h5' := h5
              try simp only [Bool.or_eq_true, Bool.and_eq_true, decide_eq_true_eq, Bool.or_eq_false_iff, Bool.and_eq_false_iff, decide_eq_false_iff_not, Bool.not_eq_true', Bool.not_eq_false'] at h5'
              refine xc_skip ?_
              refine xc_seq ?_
              refine xc_regionE [] (fun W_ => Chg (fun x => ((.slice Ao out.length co) : Value).ownBlock = some x) w12 W_) hmix ?_
              intro w16 e15 z9
              have hS3 : Chg (fun x => ((.slice Ao out.length co) : Value).ownBlock = some x) w12 w16 := Ext.to e15
              refine xd_pure 0 (some 102) rfl rfl (by kernel_rfl) (v := (.slice Ao out.length co)) (.inl ⟨rfl, fun W_ hW_ => ox_move (v := (.slice Ao out.length co)) g6_f1 ⟨rfl, rfl⟩⟩) ?_
              refine xd_pure 1 (some 103) rfl rfl (by kernel_rfl) (v := (.pointer (some ⟨g, 0 + (((st.length : Nat) : Int) - 1 : Int).toNat * 2, none⟩))) (.inl ⟨rfl, fun W_ hW_ => ox_move (v := (.pointer (some ⟨g, 0 + (((st.length : Nat) : Int) - 1 : Int).toNat * 2, none⟩))) rfl ⟨rfl, rfl⟩⟩) ?_
              refine xd_pure 2 (some 104) rfl rfl (by kernel_rfl) (v := (.pointer (some ⟨g, 0 + (((st.length : Nat) : Int) - 1 : Int).toNat * 2, none⟩))) (.inl ⟨rfl, fun W_ hW_ => ox_nilCheck (p := ⟨g, 0 + (((st.length : Nat) : Int) - 1 : Int).toNat * 2, none⟩) rfl ⟨rfl, rfl⟩⟩) ?_
              refine xd_pure 3 (some 105) rfl rfl (by kernel_rfl) (v := (.pointer (some ⟨g, 0 + (((st.length : Nat) : Int) - 1 : Int).toNat * 2, none⟩))) (.inl ⟨rfl, fun W_ hW_ => ox_fieldAddr (b := g) (o := (0 + (((st.length : Nat) : Int) - 1 : Int).toNat * 2)) tF_114_0 rfl ⟨rfl, rfl⟩⟩) ?_
              have q19 := (Chg.cell (Ext.cell (Ext.cell hcN e5) e6) e7 (by intro (hh : g = w6.heap.size); omega))
              refine xd_take 4 (some 106) rfl rfl (by kernel_rfl) (v := (.pointer (some ⟨x.b, 0, none⟩))) (.inl ⟨rfl, fun W_ hW_ => ox_load (v := (.pointer (some ⟨x.b, 0, none⟩))) tA_36 rfl (Chg.cell (Ext.cell (Ext.cell q19 e10) e11) hW_ hgO) ⟨rfl, rfl⟩⟩) hS3 ?_
              refine xd_take 5 (some 107) rfl rfl (by kernel_rfl) (v := (.int .i64 x.kind)) (.inl ⟨rfl, fun W_ hW_ => ox_callE (al := [(.pointer (some ⟨x.b, 0, none⟩))]) pf_53 rfl (ret_mono (kind_calls stv x _ (((q10.ext e10).ext e11).keep hW_ (fun b hb hh => by have := hlowx b hb; have := lO_f1 _ hh; omega))) (by rintro _ _ ⟨rfl, rfl⟩; exact ⟨rfl, rfl⟩))⟩) hS3 ?_
              refine xd_pure 6 (some 108) rfl rfl (by kernel_rfl) (v := (.pointer (some ⟨g, 0 + (((st.length : Nat) : Int) - 1 : Int).toNat * 2, none⟩))) (.inl ⟨rfl, fun W_ hW_ => ox_move (v := (.pointer (some ⟨g, 0 + (((st.length : Nat) : Int) - 1 : Int).toNat * 2, none⟩))) rfl ⟨rfl, rfl⟩⟩) ?_
              refine xd_pure 7 (some 109) rfl rfl (by kernel_rfl) (v := (.pointer (some ⟨g, 0 + (((st.length : Nat) : Int) - 1 : Int).toNat * 2, none⟩))) (.inl ⟨rfl, fun W_ hW_ => ox_nilCheck (p := ⟨g, 0 + (((st.length : Nat) : Int) - 1 : Int).toNat * 2, none⟩) rfl ⟨rfl, rfl⟩⟩) ?_
              refine xd_pure 8 (some 110) rfl rfl (by kernel_rfl) (v := (.pointer (some ⟨g, 0 + (((st.length : Nat) : Int) - 1 : Int).toNat * 2, none⟩))) (.inl ⟨rfl, fun W_ hW_ => ox_fieldAddr (b := g) (o := (0 + (((st.length : Nat) : Int) - 1 : Int).toNat * 2)) tF_114_0 rfl ⟨rfl, rfl⟩⟩) ?_
              have q20 := (Chg.cell (Ext.cell (Ext.cell hcN e5) e6) e7 (by intro (hh : g = w6.heap.size); omega))
              refine xd_take 9 (some 111) rfl rfl (by kernel_rfl) (v := (.pointer (some ⟨x.b, 0, none⟩))) (.inl ⟨rfl, fun W_ hW_ => ox_load (v := (.pointer (some ⟨x.b, 0, none⟩))) tA_36 rfl (Chg.cell (Ext.cell (Ext.cell q20 e10) e11) hW_ hgO) ⟨rfl, rfl⟩⟩) hS3 ?_
              refine xd_take 10 (some 112) rfl rfl (by kernel_rfl) (v := (.int .i64 x.n)) (.inl ⟨rfl, fun W_ hW_ => ox_callE (al := [(.pointer (some ⟨x.b, 0, none⟩))]) pf_54 rfl (ret_mono (n_calls stv x _ (((q10.ext e10).ext e11).keep hW_ (fun b hb hh => by have := hlowx b hb; have := lO_f1 _ hh; omega))) (by rintro _ _ ⟨rfl, rfl⟩; exact ⟨rfl, rfl⟩))⟩) hS3 ?_
              refine xd_pure 11 (some 113) rfl rfl (by kernel_rfl) (v := (.pointer (some ⟨g, 0 + (((st.length : Nat) : Int) - 1 : Int).toNat * 2, none⟩))) (.inl ⟨rfl, fun W_ hW_ => ox_move (v := (.pointer (some ⟨g, 0 + (((st.length : Nat) : Int) - 1 : Int).toNat * 2, none⟩))) rfl ⟨rfl, rfl⟩⟩) ?_
              refine xd_pure 12 (some 114) rfl rfl (by kernel_rfl) (v := (.pointer (some ⟨g, 0 + (((st.length : Nat) : Int) - 1 : Int).toNat * 2, none⟩))) (.inl ⟨rfl, fun W_ hW_ => ox_nilCheck (p := ⟨g, 0 + (((st.length : Nat) : Int) - 1 : Int).toNat * 2, none⟩) rfl ⟨rfl, rfl⟩⟩) ?_
              refine xd_pure 13 (some 115) rfl rfl (by kernel_rfl) (v := (.pointer (some ⟨g, 0 + (((st.length : Nat) : Int) - 1 : Int).toNat * 2, none⟩))) (.inl ⟨rfl, fun W_ hW_ => ox_fieldAddr (b := g) (o := (0 + (((st.length : Nat) : Int) - 1 : Int).toNat * 2)) tF_114_0 rfl ⟨rfl, rfl⟩⟩) ?_
              have q21 := (Chg.cell (Ext.cell (Ext.cell hcN e5) e6) e7 (by intro (hh : g = w6.heap.size); omega))
              refine xd_take 14 (some 116) rfl rfl (by kernel_rfl) (v := (.pointer (some ⟨x.b, 0, none⟩))) (.inl ⟨rfl, fun W_ hW_ => ox_load (v := (.pointer (some ⟨x.b, 0, none⟩))) tA_36 rfl (Chg.cell (Ext.cell (Ext.cell q21 e10) e11) hW_ hgO) ⟨rfl, rfl⟩⟩) hS3 ?_
              refine xd_take 15 (some 117) rfl rfl (by kernel_rfl) (v := (.int .i64 ((x.kids.length : Nat)))) (.inl ⟨rfl, fun W_ hW_ => ox_callE (al := [(.pointer (some ⟨x.b, 0, none⟩))]) pf_55 rfl (ret_mono (count_calls stv x _ (((q10.ext e10).ext e11).keep hW_ (fun b hb hh => by have := hlowx b hb; have := lO_f1 _ hh; omega))) (by rintro _ _ ⟨rfl, rfl⟩; exact ⟨rfl, rfl⟩))⟩) hS3 ?_
              refine xd_pure 16 (some 118) rfl rfl (by kernel_rfl) (v := (.agg #[(.int .i64 3), (.int .i64 0), (.int .i64 x.kind), (.int .i64 x.n), (.int .i64 ((x.kids.length : Nat))), (.int .i64 0), (.int .i64 0), (.int .i64 0), (.int .i64 0)])) (.inl ⟨rfl, fun W_ hW_ => ox_mkStruct (ps := [(0, (.int .i64 3)), (2, (.int .i64 x.kind)), (3, (.int .i64 x.n)), (4, (.int .i64 ((x.kids.length : Nat))))]) (cs := #[(.int .i64 3), (.int .i64 0), (.int .i64 x.kind), (.int .i64 x.n), (.int .i64 ((x.kids.length : Nat))), (.int .i64 0), (.int .i64 0), (.int .i64 0), (.int .i64 0)]) tZ_88 tP_88 rfl (by kernel_rfl) ⟨rfl, rfl⟩⟩) ?_
              refine xd_one 17 (some 119) rfl rfl (by kernel_rfl) rfl (ox_mkSlice (ps := [(0, (.agg #[(.int .i64 3), (.int .i64 0), (.int .i64 x.kind), (.int .i64 x.n), (.int .i64 ((x.kids.length : Nat))), (.int .i64 0), (.int .i64 0), (.int .i64 0), (.int .i64 0)]))]) (zs := #[(.int .i64 0), (.int .i64 0), (.int .i64 0), (.int .i64 0), (.int .i64 0), (.int .i64 0), (.int .i64 0), (.int .i64 0), (.int .i64 0)]) (cs := #[(.int .i64 3), (.int .i64 0), (.int .i64 x.kind), (.int .i64 x.n), (.int .i64 ((x.kids.length : Nat))), (.int .i64 0), (.int .i64 0), (.int .i64 0), (.int .i64 0)]) tE_54 rfl (by decide) (by kernel_rfl) (by kernel_rfl) ?_)
              intro w17 e16 z10 b7
              replace b7 : Blk w17 w16.heap.size #[(.int .i64 3), (.int .i64 0), (.int .i64 x.kind), (.int .i64 x.n), (.int .i64 ((x.kids.length : Nat))), (.int .i64 0), (.int .i64 0), (.int .i64 0), (.int .i64 0)] 88 := b7
              have hS4 : Chg (fun x => ((.slice Ao out.length co) : Value).ownBlock = some x) w12 w17 := Chg.ext hS3 e16
              refine ⟨.inr fun _ => hS4, ?_⟩
              have q22 := (((O_f1.ext e5).ext e6).keep1 e7 (fun k hk => ((O_f1.ext e5).ext e6).ne_blk b3 (by decide) k hk))
              have q23 := ((((q22.ext e10).ext e11).ext e15).ext e16)
              refine xd_one 18 (some 120) rfl rfl (by kernel_rfl) rfl (ox_append (n := out.length) (g := w16.heap.size) (o := 0) (m := 1) (xs := ((opC out))) (news := ([(.int .i64 3), (.int .i64 0), (.int .i64 x.kind), (.int .i64 x.n), (.int .i64 ((x.kids.length : Nat))), (.int .i64 0), (.int .i64 0), (.int .i64 0), (.int .i64 0)])) rfl tE_54 rfl (by decide) (v := (.slice Ao out.length co)) rfl rfl q23 rfl b7.all rfl (by omega) (by omega) ?_)
              intro v4 w18 o4 e17 at4 nil4
              have he17 := e17.size
              obtain ⟨A4, c4, rfl, hc4⟩ := o4.shape
              have low4 : ∀ _k, (Value.slice A4 (out.length + 1) c4).ownBlock = some _k → w.heap.size ≤ _k := fun _k _h => by rcases at4 with _e | _e <;> rw [_e] at _h; exact lO_f1 _k _h; exact (by cases _h; omega)
              have hS5 : Chg (fun x => ((.slice Ao out.length co) : Value).ownBlock = some x) w12 w18 := Chg.trans hS4 e17 (fun x hx hl => hx)
              refine ⟨.inr fun _ => hS5, ?_⟩
              refine xd_pure 19 (some 6) rfl rfl (by kernel_rfl) (v := (.slice A4 (out.length + 1) c4)) (.inl ⟨rfl, fun W_ hW_ => ox_assign (v := (.slice A4 (out.length + 1) c4)) rfl ⟨rfl, rfl⟩⟩) ?_
              refine xd_done (by kernel_rfl) ?_ _
              refine xc_region ?_
              refine xl_op (P := Try.prog) (some 121) rfl rfl (ox_move (v := (.slice (some ⟨g, 0, none⟩) st.length cs)) g7_f1 ?_)
              refine xl_op (P := Try.prog) (some 122) rfl rfl (ox_move (v := (.slice (some ⟨g, 0, none⟩) st.length cs)) g7_f1 ?_)
              refine xl_op (P := Try.prog) (some 123) rfl rfl (ox_len (A := (some ⟨g, 0, none⟩)) (n := st.length) (cp := cs) rfl tU_115 rfl ?_)
              refine xl_op (P := Try.prog) (some 124) rfl rfl (ox_sub64 (a := (((st.length : Nat) : Int))) (b := 1) rfl rfl (by omega) ?_)
              refine xl_op (P := Try.prog) (some 125) rfl rfl (ox_sliceToN (A := (some ⟨g, 0, none⟩)) (cp := cs) (i := (((st.length : Nat) : Int) - 1)) st'.length tE_115 rfl rfl (by omega) (by omega) (by omega) ?_)
              refine xl_op (P := Try.prog) (some 7) rfl rfl (ox_assign (v := (.slice (some ⟨g, 0, none⟩) st'.length cs)) rfl ?_)
              refine xl_nil ?_
              have hO9 := o4
              have q24 := (((S_f1.ext e5).ext e6).keep1 e7 (fun k hk => ((S_f1.ext e5).ext e6).ne_blk b3 (by decide) k hk))
              have q25 := ((((q24.ext e10).ext e11).ext e15).ext e16)
              have q26 := (q25.keep e17 (fun _k _hk => q25.ne_own q23 (by decide) _k _hk))
              have hS9 := q26
              have hsz0 := e5.size
              have hsz1 := e6.size
              have hsz2 := e7.size
              have hsz3 := e10.size
              have hsz4 := e11.size
              have hsz5 := e15.size
              have hsz6 := e16.size
              have hsz7 := e17.size
              have hlp : (out ++ [makeO x.kind x.n x.kids.length]).length = out.length + 1 := by simp
              have q27 := (((map_mb_f1.ext e5).ext e6).keep1 e7 (fun _h => ((map_mb_f1.ext e5).ext e6).ne_blk b3 _h))
              have q28 := ((((q27.ext e10).ext e11).ext e15).ext e16)
              have q29 := (q28.keep e17 (fun _h => by rcases q23.form with ⟨_e, _⟩ | ⟨_g, _c, _cur, _e, _hb, _⟩ <;> rw [_e] at _h <;> simp [Value.ownBlock] at _h; exact q28.ne_blk _hb _h.symm))
              exact ⟨rfl, (scM st').toNat, by omega, st', (out ++ [makeO x.kind x.n x.kids.length]), some ⟨g, 0, none⟩, cs, A4, c4, by rfl, ⟨hg', by omega⟩, by rw [hout, hsR, show scFrom (fun k => (lookM (kn (walkT 0 ra)) k).isSome) (x, j) = [makeO x.kind x.n x.kids.length] from (hin.trans (scIn_end (hk0 h5)))]; simp, g5_f1, (by rw [hlp]; rfl), rfl, (by have h8 := hS9.take (m := st'.length) (by omega); rw [hSx, List.take_append_of_le_length (by rw [stC_len]; omega), List.take_of_length_le (by rw [stC_len]; omega)] at h8; exact h8), (by rw [show (out ++ [makeO x.kind x.n x.kids.length]).length = out.length + 1 by simp, opC_snoc]; simpa [OpD.cs, keepO, leafO, makeO, lf0] using hO9), (fun k hk => lS_f1 k (ownBlock_len hk)), (fun k hk => low4 k (ownBlock_len hk)), q29, (Chg.trans (Ext.trans (Ext.trans (Ext.trans (Ext.trans (Ext.chg1 (Ext.trans (Ext.trans e_f1 e5) e6) e7 (by first | omega | (have := lS_f1 _ rfl; omega))) e10) e11) e15) e16) e17 (fun b hb hl => absurd hl (by have := lO_f1 b hb; omega)))⟩
      · skip
        have hin : scFrom (fun k => (lookM (kn (walkT 0 ra)) k).isSome) (x, j) = scIn (fun k => (lookM (kn (walkT 0 ra)) k).isSome) x j := by unfold scFrom; rw [if_neg (by simpa using h2)]
        refine xc_skip ?_
        refine xc_seq ?_
        refine xc_seq ?_
        refine xc_regionE [8] (fun W_ => Chg (fun _ => False) w3 W_) hmix ?_
        intro w19 e18 z11
        have hS6 : Chg (fun _ => False) w3 w19 := Ext.to e18
        refine xd_pure 0 (some 78) rfl rfl (by kernel_rfl) (v := (.pointer (some ⟨g, 0 + (((st.length : Nat) : Int) - 1 : Int).toNat * 2, none⟩))) (.inl ⟨rfl, fun W_ hW_ => ox_move (v := (.pointer (some ⟨g, 0 + (((st.length : Nat) : Int) - 1 : Int).toNat * 2, none⟩))) rfl ⟨rfl, rfl⟩⟩) ?_
        refine xd_pure 1 (some 79) rfl rfl (by kernel_rfl) (v := (.pointer (some ⟨g, 0 + (((st.length : Nat) : Int) - 1 : Int).toNat * 2, none⟩))) (.inl ⟨rfl, fun W_ hW_ => ox_nilCheck (p := ⟨g, 0 + (((st.length : Nat) : Int) - 1 : Int).toNat * 2, none⟩) rfl ⟨rfl, rfl⟩⟩) ?_
        refine xd_pure 2 (some 80) rfl rfl (by kernel_rfl) (v := (.pointer (some ⟨g, 0 + (((st.length : Nat) : Int) - 1 : Int).toNat * 2, none⟩))) (.inl ⟨rfl, fun W_ hW_ => ox_fieldAddr (b := g) (o := (0 + (((st.length : Nat) : Int) - 1 : Int).toNat * 2)) tF_114_0 rfl ⟨rfl, rfl⟩⟩) ?_
        refine xd_take 3 (some 81) rfl rfl (by kernel_rfl) (v := (.pointer (some ⟨x.b, 0, none⟩))) (.inl ⟨rfl, fun W_ hW_ => ox_load (v := (.pointer (some ⟨x.b, 0, none⟩))) tA_36 rfl (Ext.cell hcN hW_) ⟨rfl, rfl⟩⟩) hS6 ?_
        refine xd_pure 4 (some 82) rfl rfl (by kernel_rfl) (v := (.pointer (some ⟨g, 0 + (((st.length : Nat) : Int) - 1 : Int).toNat * 2, none⟩))) (.inl ⟨rfl, fun W_ hW_ => ox_move (v := (.pointer (some ⟨g, 0 + (((st.length : Nat) : Int) - 1 : Int).toNat * 2, none⟩))) rfl ⟨rfl, rfl⟩⟩) ?_
        refine xd_pure 5 (some 83) rfl rfl (by kernel_rfl) (v := (.pointer (some ⟨g, 0 + (((st.length : Nat) : Int) - 1 : Int).toNat * 2, none⟩))) (.inl ⟨rfl, fun W_ hW_ => ox_nilCheck (p := ⟨g, 0 + (((st.length : Nat) : Int) - 1 : Int).toNat * 2, none⟩) rfl ⟨rfl, rfl⟩⟩) ?_
        refine xd_pure 6 (some 84) rfl rfl (by kernel_rfl) (v := (.pointer (some ⟨g, 0 + (((st.length : Nat) : Int) - 1 : Int).toNat * 2 + 1, none⟩))) (.inl ⟨rfl, fun W_ hW_ => ox_fieldAddr (b := g) (o := (0 + (((st.length : Nat) : Int) - 1 : Int).toNat * 2)) tF_114_1 rfl ⟨rfl, rfl⟩⟩) ?_
        refine xd_take 7 (some 85) rfl rfl (by kernel_rfl) (v := (.int .i64 ((j : Nat)))) (.inl ⟨rfl, fun W_ hW_ => ox_load (v := (.int .i64 ((j : Nat)))) tA_3 rfl (Ext.cell hcJ hW_) ⟨rfl, rfl⟩⟩) hS6 ?_
        refine xd_one 8 (some 86) rfl rfl (by kernel_rfl) rfl (ox_callE (al := [(.pointer (some ⟨x.b, 0, none⟩)), (.int .i64 ((j : Nat)))]) pf_52 rfl (ret_mono (kid_calls stv x j w19 (hpx.ext e18) (by omega)) ?_))
        rintro _ w20 ⟨ko, kb, rfl, hk1, hk0, e19⟩
        have he19 := e19.size
        refine ⟨.inl (by decide), ?_⟩
        refine xd_pure 9 (some 77) rfl rfl (by kernel_rfl) (v := (.tuple #[(.pointer ko), (.bool kb)])) (.inl ⟨rfl, fun W_ hW_ => ox_move (v := (.tuple #[(.pointer ko), (.bool kb)])) rfl ⟨rfl, rfl⟩⟩) ?_
        refine xd_pure 10 (some 87) rfl rfl (by kernel_rfl) (v := (.pointer ko)) (.inl ⟨rfl, fun W_ hW_ => ox_extract (vs := #[(.pointer ko), (.bool kb)]) (v := (.pointer ko)) rfl rfl ⟨rfl, rfl⟩⟩) ?_
        refine xd_pure 11 (some 88) rfl rfl (by kernel_rfl) (v := (.bool kb)) (.inl ⟨rfl, fun W_ hW_ => ox_extract (vs := #[(.pointer ko), (.bool kb)]) (v := (.bool kb)) rfl rfl ⟨rfl, rfl⟩⟩) ?_
        refine xd_pure 12 (some 13) rfl rfl (by kernel_rfl) (v := (.pointer ko)) (.inl ⟨rfl, fun W_ hW_ => ox_assign (v := (.pointer ko)) rfl ⟨rfl, rfl⟩⟩) ?_
        refine xd_pure 13 (some 14) rfl rfl (by kernel_rfl) (v := (.bool kb)) (.inl ⟨rfl, fun W_ hW_ => ox_assign (v := (.bool kb)) rfl ⟨rfl, rfl⟩⟩) ?_
        refine xd_done (by kernel_rfl) ?_ _
        refine xc_seq ?_
        refine xc_region ?_
        refine xl_op (P := Try.prog) (some 89) rfl rfl (ox_move (v := (.bool kb)) rfl ?_)
        refine xl_nil ?_
        refine xc_cond (b := kb) rfl (fun h6 => ?_) (fun h6 => ?_)
        · skip
          have h6' := h6
          try simp only [Bool.or_eq_true, Bool.and_eq_true, decide_eq_true_eq, Bool.or_eq_false_iff, Bool.and_eq_false_iff, decide_eq_false_iff_not, Bool.not_eq_true', Bool.not_eq_false'] at h6'
          obtain ⟨u, hu, rfl⟩ := hk1 h6
          have hju := get_len hu
          refine xc_seq ?_
          refine xc_region ?_
          refine xl_op (P := Try.prog) (some 90) rfl rfl (ox_move (v := (.pointer (some ⟨g, 0 + (((st.length : Nat) : Int) - 1 : Int).toNat * 2, none⟩))) rfl ?_)
          refine xl_op (P := Try.prog) (some 91) rfl rfl (ox_nilCheck (p := ⟨g, 0 + (((st.length : Nat) : Int) - 1 : Int).toNat * 2, none⟩) rfl ?_)
          refine xl_op (P := Try.prog) (some 92) rfl rfl (ox_fieldAddr (b := g) (o := (0 + (((st.length : Nat) : Int) - 1 : Int).toNat * 2)) tF_114_1 rfl ?_)
          refine xl_op (P := Try.prog) (some 93) rfl rfl (ox_load (v := (.int .i64 ((j : Nat)))) tA_3 rfl (Ext.cell (Ext.cell hcJ e18) e19) ?_)
          refine xl_op (P := Try.prog) (some 94) rfl rfl (ox_add64 (a := ((j : Nat))) (b := 1) rfl rfl (by omega) ?_)
          refine xl_op (P := Try.prog) (some 95) rfl rfl (ox_nilCheck (p := ⟨g, 0 + (((st.length : Nat) : Int) - 1 : Int).toNat * 2, none⟩) rfl ?_)
          refine xl_op (P := Try.prog) (some 96) rfl rfl (ox_fieldAddr (b := g) (o := (0 + (((st.length : Nat) : Int) - 1 : Int).toNat * 2)) tF_114_1 rfl ?_)
          refine xl_op (P := Try.prog) none rfl rfl (ox_storeO (m := 1) (vs := [(.int .i64 ((j : Nat) + 1))]) tS_3 rfl (v := (.int .i64 ((j : Nat) + 1))) rfl rfl rfl rfl ((S_f1.ext e18).ext e19) (by omega) ?_)
          intro w21 e20 z12 hS7
          replace hS7 : Vx.Own w21 114 2 (.slice (some ⟨g, 0, none⟩) st.length cs) st.length (stC ((x, j + 1) :: st')) := by rw [hoff, hst] at hS7; have h9 := setL_top st' x j (j + 1); rw [← h9, hst]; exact hS7
          refine xl_nil ?_
          refine xc_seq ?_
          refine xc_region ?_
          refine xl_op (P := Try.prog) (some 97) rfl rfl (ox_move (v := (.slice (some ⟨g, 0, none⟩) st.length cs)) g7_f1 ?_)
          refine xl_op (P := Try.prog) (some 98) rfl rfl (ox_move (v := (.pointer (some ⟨u.b, 0, none⟩))) rfl ?_)
          refine xl_op (P := Try.prog) (some 99) rfl rfl (ox_mkStruct (ps := [(0, (.pointer (some ⟨u.b, 0, none⟩)))]) (cs := #[(.pointer (some ⟨u.b, 0, none⟩)), (.int .i64 0)]) tZ_114 tP_114 rfl (by kernel_rfl) ?_)
          refine xl_op (P := Try.prog) (some 100) rfl rfl (ox_mkSlice (ps := [(0, (.agg #[(.pointer (some ⟨u.b, 0, none⟩)), (.int .i64 0)]))]) (zs := #[(.pointer none), (.int .i64 0)]) (cs := #[(.pointer (some ⟨u.b, 0, none⟩)), (.int .i64 0)]) tE_115 rfl (by decide) (by kernel_rfl) (by kernel_rfl) ?_)
          intro w22 e21 z13 b8
          replace b8 : Blk w22 w21.heap.size #[(.pointer (some ⟨u.b, 0, none⟩)), (.int .i64 0)] 114 := b8
          refine xl_op (P := Try.prog) (some 101) rfl rfl (ox_append (n := st.length) (g := w21.heap.size) (o := 0) (m := 1) (xs := ((stC ((x, j + 1) :: st')))) (news := ([(.pointer (some ⟨u.b, 0, none⟩)), (.int .i64 0)])) rfl tE_115 rfl (by decide) (v := (.slice (some ⟨g, 0, none⟩) st.length cs)) rfl rfl (hS7.ext e21) rfl b8.all rfl (by omega) (by omega) ?_)
          intro v5 w23 o5 e22 at5 nil5
          have he22 := e22.size
          obtain ⟨A5, c5, rfl, hc5⟩ := o5.shape
          have low5 : ∀ _k, (Value.slice A5 (st.length + 1) c5).ownBlock = some _k → w.heap.size ≤ _k := fun _k _h => by rcases at5 with _e | _e <;> rw [_e] at _h; exact lS_f1 _k _h; exact (by cases _h; omega)
          refine xl_op (P := Try.prog) (some 7) rfl rfl (ox_assign (v := (.slice A5 (st.length + 1) c5)) rfl ?_)
          refine xl_nil ?_
          refine xc_exit ?_
          have hpm := scM_push (st := st') hu
          have hsu := szL_mem (List.mem_of_getElem? hu)
          have hms : scM ((x, j) :: st') = scM st := by rw [hst]
          have q30 := (((O_f1.ext e18).ext e19).keep1 e20 (fun k hk => fun hh => ((O_f1.ext e18).ext e19).ne_own ((S_f1.ext e18).ext e19) (by decide) k hk (by rw [hh]; rfl)))
          have q31 := ((q30.ext e21).keep e22 (fun _k _hk => (q30.ext e21).ne_own (hS7.ext e21) (by decide) _k _hk))
          have hO9 := q31
          have hS9 := o5
          have hsz0 := e18.size
          have hsz1 := e19.size
          have hsz2 := e20.size
          have hsz3 := e21.size
          have hsz4 := e22.size
          have hlp : ((u, 0) :: (x, j + 1) :: st').length = st.length + 1 := by simp [hl1]
          have q32 := (((map_mb_f1.ext e18).ext e19).keep1 e20 (fun hh => ((S_f1.ext e18).ext e19).ne_map ((map_mb_f1.ext e18).ext e19) _ rfl hh.symm))
          have q33 := ((q32.ext e21).keep e22 (fun _h => by rcases (hS7.ext e21).form with ⟨_e, _⟩ | ⟨_g, _c, _cur, _e, _hb, _⟩ <;> rw [_e] at _h <;> simp [Value.ownBlock] at _h; exact (q32.ext e21).ne_blk _hb _h.symm))
          exact ⟨rfl, (scM ((u, 0) :: (x, j + 1) :: st')).toNat, by omega, ((u, 0) :: (x, j + 1) :: st'), out, A5, c5, Ao, co, by rfl, ⟨fun p hp => by rcases List.mem_cons.1 hp with rfl | hp; exact ⟨hgx.1.kids.get hu, WFL_mem hgx.2.1.kids (List.mem_of_getElem? hu), by show sz u ≤ sz rb; omega⟩; rcases List.mem_cons.1 hp with rfl | hp; exact hgx; exact hg' p hp, by omega⟩, by rw [hout, hsR, hin, scIn_kid hu]; simp [scR, scFrom], g5_f1, g6_f1, (by rw [hlp]; rfl), (by have hl9 : ((u, 0) :: (x, j + 1) :: st').length = st.length + 1 := (by simp [hl1]);     rw [hl9, stC_cons]; exact hS9), hO9, (fun k hk => low5 k (ownBlock_len hk)), (fun k hk => lO_f1 k (ownBlock_len hk)), q33, (Chg.trans (Ext.trans (Ext.chg1 (Ext.trans (Ext.trans e_f1 e18) e19) e20 (by first | omega | (have := lS_f1 _ rfl; omega))) e21) e22 (fun b hb hl => absurd hl (by have := lS_f1 b hb; omega)))⟩
        · skip
          have h6' := h6
          try simp only [Bool.or_eq_true, Bool.and_eq_true, decide_eq_true_eq, Bool.or_eq_false_iff, Bool.and_eq_false_iff, decide_eq_false_iff_not, Bool.not_eq_true', Bool.not_eq_false'] at h6'
          refine xc_skip ?_
          refine xc_seq ?_
          refine xc_regionE [] (fun W_ => Chg (fun x => ((.slice Ao out.length co) : Value).ownBlock = some x) w20 W_) hmix ?_
          intro w24 e23 z14
          have hS8 : Chg (fun x => ((.slice Ao out.length co) : Value).ownBlock = some x) w20 w24 := Ext.to e23
          refine xd_pure 0 (some 102) rfl rfl (by kernel_rfl) (v := (.slice Ao out.length co)) (.inl ⟨rfl, fun W_ hW_ => ox_move (v := (.slice Ao out.length co)) g6_f1 ⟨rfl, rfl⟩⟩) ?_
          refine xd_pure 1 (some 103) rfl rfl (by kernel_rfl) (v := (.pointer (some ⟨g, 0 + (((st.length : Nat) : Int) - 1 : Int).toNat * 2, none⟩))) (.inl ⟨rfl, fun W_ hW_ => ox_move (v := (.pointer (some ⟨g, 0 + (((st.length : Nat) : Int) - 1 : Int).toNat * 2, none⟩))) rfl ⟨rfl, rfl⟩⟩) ?_
          refine xd_pure 2 (some 104) rfl rfl (by kernel_rfl) (v := (.pointer (some ⟨g, 0 + (((st.length : Nat) : Int) - 1 : Int).toNat * 2, none⟩))) (.inl ⟨rfl, fun W_ hW_ => ox_nilCheck (p := ⟨g, 0 + (((st.length : Nat) : Int) - 1 : Int).toNat * 2, none⟩) rfl ⟨rfl, rfl⟩⟩) ?_
          refine xd_pure 3 (some 105) rfl rfl (by kernel_rfl) (v := (.pointer (some ⟨g, 0 + (((st.length : Nat) : Int) - 1 : Int).toNat * 2, none⟩))) (.inl ⟨rfl, fun W_ hW_ => ox_fieldAddr (b := g) (o := (0 + (((st.length : Nat) : Int) - 1 : Int).toNat * 2)) tF_114_0 rfl ⟨rfl, rfl⟩⟩) ?_
          refine xd_take 4 (some 106) rfl rfl (by kernel_rfl) (v := (.pointer (some ⟨x.b, 0, none⟩))) (.inl ⟨rfl, fun W_ hW_ => ox_load (v := (.pointer (some ⟨x.b, 0, none⟩))) tA_36 rfl (Chg.cell (Ext.cell (Ext.cell hcN e18) e19) hW_ hgO) ⟨rfl, rfl⟩⟩) hS8 ?_
          refine xd_take 5 (some 107) rfl rfl (by kernel_rfl) (v := (.int .i64 x.kind)) (.inl ⟨rfl, fun W_ hW_ => ox_callE (al := [(.pointer (some ⟨x.b, 0, none⟩))]) pf_53 rfl (ret_mono (kind_calls stv x _ (((hpx.ext e18).ext e19).keep hW_ (fun b hb hh => by have := hlowx b hb; have := lO_f1 _ hh; omega))) (by rintro _ _ ⟨rfl, rfl⟩; exact ⟨rfl, rfl⟩))⟩) hS8 ?_
          refine xd_pure 6 (some 108) rfl rfl (by kernel_rfl) (v := (.pointer (some ⟨g, 0 + (((st.length : Nat) : Int) - 1 : Int).toNat * 2, none⟩))) (.inl ⟨rfl, fun W_ hW_ => ox_move (v := (.pointer (some ⟨g, 0 + (((st.length : Nat) : Int) - 1 : Int).toNat * 2, none⟩))) rfl ⟨rfl, rfl⟩⟩) ?_
          refine xd_pure 7 (some 109) rfl rfl (by kernel_rfl) (v := (.pointer (some ⟨g, 0 + (((st.length : Nat) : Int) - 1 : Int).toNat * 2, none⟩))) (.inl ⟨rfl, fun W_ hW_ => ox_nilCheck (p := ⟨g, 0 + (((st.length : Nat) : Int) - 1 : Int).toNat * 2, none⟩) rfl ⟨rfl, rfl⟩⟩) ?_
          refine xd_pure 8 (some 110) rfl rfl (by kernel_rfl) (v := (.pointer (some ⟨g, 0 + (((st.length : Nat) : Int) - 1 : Int).toNat * 2, none⟩))) (.inl ⟨rfl, fun W_ hW_ => ox_fieldAddr (b := g) (o := (0 + (((st.length : Nat) : Int) - 1 : Int).toNat * 2)) tF_114_0 rfl ⟨rfl, rfl⟩⟩) ?_
          refine xd_take 9 (some 111) rfl rfl (by kernel_rfl) (v := (.pointer (some ⟨x.b, 0, none⟩))) (.inl ⟨rfl, fun W_ hW_ => ox_load (v := (.pointer (some ⟨x.b, 0, none⟩))) tA_36 rfl (Chg.cell (Ext.cell (Ext.cell hcN e18) e19) hW_ hgO) ⟨rfl, rfl⟩⟩) hS8 ?_
          refine xd_take 10 (some 112) rfl rfl (by kernel_rfl) (v := (.int .i64 x.n)) (.inl ⟨rfl, fun W_ hW_ => ox_callE (al := [(.pointer (some ⟨x.b, 0, none⟩))]) pf_54 rfl (ret_mono (n_calls stv x _ (((hpx.ext e18).ext e19).keep hW_ (fun b hb hh => by have := hlowx b hb; have := lO_f1 _ hh; omega))) (by rintro _ _ ⟨rfl, rfl⟩; exact ⟨rfl, rfl⟩))⟩) hS8 ?_
          refine xd_pure 11 (some 113) rfl rfl (by kernel_rfl) (v := (.pointer (some ⟨g, 0 + (((st.length : Nat) : Int) - 1 : Int).toNat * 2, none⟩))) (.inl ⟨rfl, fun W_ hW_ => ox_move (v := (.pointer (some ⟨g, 0 + (((st.length : Nat) : Int) - 1 : Int).toNat * 2, none⟩))) rfl ⟨rfl, rfl⟩⟩) ?_
          refine xd_pure 12 (some 114) rfl rfl (by kernel_rfl) (v := (.pointer (some ⟨g, 0 + (((st.length : Nat) : Int) - 1 : Int).toNat * 2, none⟩))) (.inl ⟨rfl, fun W_ hW_ => ox_nilCheck (p := ⟨g, 0 + (((st.length : Nat) : Int) - 1 : Int).toNat * 2, none⟩) rfl ⟨rfl, rfl⟩⟩) ?_
          refine xd_pure 13 (some 115) rfl rfl (by kernel_rfl) (v := (.pointer (some ⟨g, 0 + (((st.length : Nat) : Int) - 1 : Int).toNat * 2, none⟩))) (.inl ⟨rfl, fun W_ hW_ => ox_fieldAddr (b := g) (o := (0 + (((st.length : Nat) : Int) - 1 : Int).toNat * 2)) tF_114_0 rfl ⟨rfl, rfl⟩⟩) ?_
          refine xd_take 14 (some 116) rfl rfl (by kernel_rfl) (v := (.pointer (some ⟨x.b, 0, none⟩))) (.inl ⟨rfl, fun W_ hW_ => ox_load (v := (.pointer (some ⟨x.b, 0, none⟩))) tA_36 rfl (Chg.cell (Ext.cell (Ext.cell hcN e18) e19) hW_ hgO) ⟨rfl, rfl⟩⟩) hS8 ?_
          refine xd_take 15 (some 117) rfl rfl (by kernel_rfl) (v := (.int .i64 ((x.kids.length : Nat)))) (.inl ⟨rfl, fun W_ hW_ => ox_callE (al := [(.pointer (some ⟨x.b, 0, none⟩))]) pf_55 rfl (ret_mono (count_calls stv x _ (((hpx.ext e18).ext e19).keep hW_ (fun b hb hh => by have := hlowx b hb; have := lO_f1 _ hh; omega))) (by rintro _ _ ⟨rfl, rfl⟩; exact ⟨rfl, rfl⟩))⟩) hS8 ?_
          refine xd_pure 16 (some 118) rfl rfl (by kernel_rfl) (v := (.agg #[(.int .i64 3), (.int .i64 0), (.int .i64 x.kind), (.int .i64 x.n), (.int .i64 ((x.kids.length : Nat))), (.int .i64 0), (.int .i64 0), (.int .i64 0), (.int .i64 0)])) (.inl ⟨rfl, fun W_ hW_ => ox_mkStruct (ps := [(0, (.int .i64 3)), (2, (.int .i64 x.kind)), (3, (.int .i64 x.n)), (4, (.int .i64 ((x.kids.length : Nat))))]) (cs := #[(.int .i64 3), (.int .i64 0), (.int .i64 x.kind), (.int .i64 x.n), (.int .i64 ((x.kids.length : Nat))), (.int .i64 0), (.int .i64 0), (.int .i64 0), (.int .i64 0)]) tZ_88 tP_88 rfl (by kernel_rfl) ⟨rfl, rfl⟩⟩) ?_
          refine xd_one 17 (some 119) rfl rfl (by kernel_rfl) rfl (ox_mkSlice (ps := [(0, (.agg #[(.int .i64 3), (.int .i64 0), (.int .i64 x.kind), (.int .i64 x.n), (.int .i64 ((x.kids.length : Nat))), (.int .i64 0), (.int .i64 0), (.int .i64 0), (.int .i64 0)]))]) (zs := #[(.int .i64 0), (.int .i64 0), (.int .i64 0), (.int .i64 0), (.int .i64 0), (.int .i64 0), (.int .i64 0), (.int .i64 0), (.int .i64 0)]) (cs := #[(.int .i64 3), (.int .i64 0), (.int .i64 x.kind), (.int .i64 x.n), (.int .i64 ((x.kids.length : Nat))), (.int .i64 0), (.int .i64 0), (.int .i64 0), (.int .i64 0)]) tE_54 rfl (by decide) (by kernel_rfl) (by kernel_rfl) ?_)
          intro w25 e24 z15 b9
          replace b9 : Blk w25 w24.heap.size #[(.int .i64 3), (.int .i64 0), (.int .i64 x.kind), (.int .i64 x.n), (.int .i64 ((x.kids.length : Nat))), (.int .i64 0), (.int .i64 0), (.int .i64 0), (.int .i64 0)] 88 := b9
          have hS9 : Chg (fun x => ((.slice Ao out.length co) : Value).ownBlock = some x) w20 w25 := Chg.ext hS8 e24
          refine ⟨.inr fun _ => hS9, ?_⟩
          have q34 := ((((O_f1.ext e18).ext e19).ext e23).ext e24)
          refine xd_one 18 (some 120) rfl rfl (by kernel_rfl) rfl (ox_append (n := out.length) (g := w24.heap.size) (o := 0) (m := 1) (xs := ((opC out))) (news := ([(.int .i64 3), (.int .i64 0), (.int .i64 x.kind), (.int .i64 x.n), (.int .i64 ((x.kids.length : Nat))), (.int .i64 0), (.int .i64 0), (.int .i64 0), (.int .i64 0)])) rfl tE_54 rfl (by decide) (v := (.slice Ao out.length co)) rfl rfl q34 rfl b9.all rfl (by omega) (by omega) ?_)
          intro v6 w26 o6 e25 at6 nil6
          have he25 := e25.size
          obtain ⟨A6, c6, rfl, hc6⟩ := o6.shape
          have low6 : ∀ _k, (Value.slice A6 (out.length + 1) c6).ownBlock = some _k → w.heap.size ≤ _k := fun _k _h => by rcases at6 with _e | _e <;> rw [_e] at _h; exact lO_f1 _k _h; exact (by cases _h; omega)
          have hS10 : Chg (fun x => ((.slice Ao out.length co) : Value).ownBlock = some x) w20 w26 := Chg.trans hS9 e25 (fun x hx hl => hx)
          refine ⟨.inr fun _ => hS10, ?_⟩
          refine xd_pure 19 (some 6) rfl rfl (by kernel_rfl) (v := (.slice A6 (out.length + 1) c6)) (.inl ⟨rfl, fun W_ hW_ => ox_assign (v := (.slice A6 (out.length + 1) c6)) rfl ⟨rfl, rfl⟩⟩) ?_
          refine xd_done (by kernel_rfl) ?_ _
          refine xc_region ?_
          refine xl_op (P := Try.prog) (some 121) rfl rfl (ox_move (v := (.slice (some ⟨g, 0, none⟩) st.length cs)) g7_f1 ?_)
          refine xl_op (P := Try.prog) (some 122) rfl rfl (ox_move (v := (.slice (some ⟨g, 0, none⟩) st.length cs)) g7_f1 ?_)
          refine xl_op (P := Try.prog) (some 123) rfl rfl (ox_len (A := (some ⟨g, 0, none⟩)) (n := st.length) (cp := cs) rfl tU_115 rfl ?_)
          refine xl_op (P := Try.prog) (some 124) rfl rfl (ox_sub64 (a := (((st.length : Nat) : Int))) (b := 1) rfl rfl (by omega) ?_)
          refine xl_op (P := Try.prog) (some 125) rfl rfl (ox_sliceToN (A := (some ⟨g, 0, none⟩)) (cp := cs) (i := (((st.length : Nat) : Int) - 1)) st'.length tE_115 rfl rfl (by omega) (by omega) (by omega) ?_)
          refine xl_op (P := Try.prog) (some 7) rfl rfl (ox_assign (v := (.slice (some ⟨g, 0, none⟩) st'.length cs)) rfl ?_)
          refine xl_nil ?_
          have hO9 := o6
          have q35 := ((((S_f1.ext e18).ext e19).ext e23).ext e24)
          have q36 := (q35.keep e25 (fun _k _hk => q35.ne_own q34 (by decide) _k _hk))
          have hS9 := q36
          have hsz0 := e18.size
          have hsz1 := e19.size
          have hsz2 := e23.size
          have hsz3 := e24.size
          have hsz4 := e25.size
          have hlp : (out ++ [makeO x.kind x.n x.kids.length]).length = out.length + 1 := by simp
          have q37 := ((((map_mb_f1.ext e18).ext e19).ext e23).ext e24)
          have q38 := (q37.keep e25 (fun _h => by rcases q34.form with ⟨_e, _⟩ | ⟨_g, _c, _cur, _e, _hb, _⟩ <;> rw [_e] at _h <;> simp [Value.ownBlock] at _h; exact q37.ne_blk _hb _h.symm))
          exact ⟨rfl, (scM st').toNat, by omega, st', (out ++ [makeO x.kind x.n x.kids.length]), some ⟨g, 0, none⟩, cs, A6, c6, by rfl, ⟨hg', by omega⟩, by rw [hout, hsR, show scFrom (fun k => (lookM (kn (walkT 0 ra)) k).isSome) (x, j) = [makeO x.kind x.n x.kids.length] from (hin.trans (scIn_end (hk0 h6)))]; simp, g5_f1, (by rw [hlp]; rfl), rfl, (by have h8 := hS9.take (m := st'.length) (by omega); rw [hSx, List.take_append_of_le_length (by rw [stC_len]; omega), List.take_of_length_le (by rw [stC_len]; omega)] at h8; exact h8), (by rw [show (out ++ [makeO x.kind x.n x.kids.length]).length = out.length + 1 by simp, opC_snoc]; simpa [OpD.cs, keepO, leafO, makeO, lf0] using hO9), (fun k hk => lS_f1 k (ownBlock_len hk)), (fun k hk => low6 k (ownBlock_len hk)), q38, (Chg.trans (Ext.trans (Ext.trans (Ext.trans (Ext.trans e_f1 e18) e19) e23) e24) e25 (fun b hb hl => absurd hl (by have := lO_f1 b hb; omega)))⟩
    · skip
      refine xc_exit ?_
      refine xc_seq ?_
      refine xc_region ?_
      refine xl_op (P := Try.prog) (some 126) rfl rfl (ox_move (v := (.slice Ao out.length co)) g6_f1 ?_)
      refine xl_op (P := Try.prog) (some 4) rfl rfl (ox_assign (v := (.slice Ao out.length co)) rfl ?_)
      refine xl_nil ?_
      refine xc_ret ?_
      change leaves _ _ _ _ _ _ _
      refine leaves_nil (n := 127) (rs := [.tmp 4]) (vs := [(.slice Ao out.length co)]) rfl ⟨⟨by decide, rfl⟩, trivial⟩ ?_
      have hs0 : st = [] := List.eq_nil_of_length_eq_zero (by omega)
      have ho : script (fun k => (lookM (kn (walkT 0 ra)) k).isSome) rb = out := by rw [hout, hs0]; simp [scR]
      exact ⟨Ao, co, by rw [ho]; rfl, by rw [ho]; exact O_f1, by rw [ho]; exact lO_f1, e_f1⟩

end Go.Proofs.Ythhbnodnpajljaa
