/-
  delta.part: the hunks between two trees' leaves, and the second one's spots. No conditions.
-/
import Derived.Test.YthhbnodnpajljaaVxi
import Derived.Test.YthhbnodnpajljaaRows
import Derived.Test.YthhbnodnpajljaaDj
import Derived.Test.YthhbnodnpajljaaDl
set_option linter.unusedVariables false
set_option linter.unusedSimpArgs false
set_option maxRecDepth 100000
set_option maxHeartbeats 4000000
namespace Go.Proofs.Ythhbnodnpajljaa
open Go Go.RowKit Go.Vx


theorem pf_67 : plainF Try.prog 67 = true := by kernel_rfl
theorem pf_68 : plainF Try.prog 68 = true := by kernel_rfl
theorem tF_130_0 : fieldT Try.prog 130 0 = some 0 := by kernel_rfl
theorem tU_42 : Try.prog.underlying 42 = some (.slice 3) := by kernel_rfl
theorem tZ_3 : zeroOf Try.prog 3 = some (.int .i64 0) := by kernel_rfl
theorem tZ_34 : zeroOf Try.prog 34 = some (.slice none 0 0) := by kernel_rfl

theorem part_calls (stv : Value) (ra rb : T) (w : World) (hPa : PN stv w ra) (hWa : WF ra) (hsa : sz ra ≤ 4194304) (hPb : PN stv w rb) (hWb : WF rb) (hsb : sz rb ≤ 4194304) :
    Calls Try.prog 46 #[(.pointer (some ⟨ra.b, 0, none⟩)), (.pointer (some ⟨rb.b, 0, none⟩))] w (Ret (fun v w' => ∃ A c A3 c3, v = .tuple #[.slice A (hunks (ids (leafI ra)) (ids (leafI rb))).length c, .slice A3 (leafI rb).length c3] ∧ Vx.Own w' 40 4 (.slice A (hunks (ids (leafI ra)) (ids (leafI rb))).length c) (hunks (ids (leafI ra)) (ids (leafI rb))).length (hkC (hunks (ids (leafI ra)) (ids (leafI rb)))) ∧ Vx.Own w' 130 3 (.slice A3 (leafI rb).length c3) (leafI rb).length (spC (spL (leafI rb))) ∧ (∀ k, (Value.slice A (hunks (ids (leafI ra)) (ids (leafI rb))).length c).ownBlock = some k → w.heap.size ≤ k) ∧ (∀ k, (Value.slice A3 (leafI rb).length c3).ownBlock = some k → w.heap.size ≤ k) ∧ Ext w w')) := by
  have hll : (leafI ra).length ≤ 4194304 := by have h1 := leafI_len ra; omega
  have hlr : (leafI rb).length ≤ 4194304 := by have h1 := leafI_len rb; omega
  refine calls_xc (n := 78) (f := fun s_ => [(.pointer (some ⟨ra.b, 0, none⟩)), (.pointer (some ⟨rb.b, 0, none⟩))].getD s_ undef) Try.func46 rfl rfl (by simp) (fun s_ => by simp) ?_
  refine xc_seq ?_
  refine xc_region ?_
  refine xl_op (P := Try.prog) (some 4) rfl rfl (ox_assign (v := (.slice none 0 0)) rfl ?_)
  refine xl_op (P := Try.prog) (some 5) rfl rfl (ox_assign (v := (.slice none 0 0)) rfl ?_)
  refine xl_nil ?_
  refine xc_seq ?_
  refine xc_region ?_
  refine xl_op (P := Try.prog) (some 23) rfl rfl (ox_move (v := (.pointer (some ⟨ra.b, 0, none⟩))) rfl ?_)
  refine xl_op (P := Try.prog) (some 24) rfl rfl (ox_callE (al := [(.pointer (some ⟨ra.b, 0, none⟩))]) pf_67 rfl (ret_mono (spots_calls stv ra w hPa hWa hsa) ?_))
  rintro _ w1 ⟨mba, m1a, m2a, A3a, A4a, p3a, p4a, rfl, hlma, hma, hMa, ho3a, ho4a, hn3a, hn4a, e1⟩
  have he1 := e1.size
  have hlwa : w1.heap.size ≤ w1.heap.size := Nat.le_refl _
  have hk3a : ∀ k, ((.slice A3a ((leafI ra).length) p3a) : Value).ownBlock = some k → k < w1.heap.size := fun k hk => ho3a.lt k hk
  have hk4a : ∀ k, ((.slice A4a ((leafI ra).length) p4a) : Value).ownBlock = some k → k < w1.heap.size := fun k hk => ho4a.lt k hk
  refine xl_op (P := Try.prog) (some 22) rfl rfl (ox_move (v := (.tuple #[(.map (some mba)), (.slice A3a ((leafI ra).length) p3a), (.slice A4a ((leafI ra).length) p4a)])) rfl ?_)
  refine xl_op (P := Try.prog) (some 25) rfl rfl (ox_extract (vs := #[(.map (some mba)), (.slice A3a ((leafI ra).length) p3a), (.slice A4a ((leafI ra).length) p4a)]) (v := (.map (some mba))) rfl rfl ?_)
  refine xl_op (P := Try.prog) (some 26) rfl rfl (ox_extract (vs := #[(.map (some mba)), (.slice A3a ((leafI ra).length) p3a), (.slice A4a ((leafI ra).length) p4a)]) (v := (.slice A3a ((leafI ra).length) p3a)) rfl rfl ?_)
  refine xl_op (P := Try.prog) (some 27) rfl rfl (ox_extract (vs := #[(.map (some mba)), (.slice A3a ((leafI ra).length) p3a), (.slice A4a ((leafI ra).length) p4a)]) (v := (.slice A4a ((leafI ra).length) p4a)) rfl rfl ?_)
  refine xl_op (P := Try.prog) (some 6) rfl rfl (ox_assign (v := (.map (some mba))) rfl ?_)
  refine xl_op (P := Try.prog) (some 7) rfl rfl (ox_assign (v := (.slice A3a ((leafI ra).length) p3a)) rfl ?_)
  refine xl_op (P := Try.prog) (some 8) rfl rfl (ox_assign (v := (.slice A4a ((leafI ra).length) p4a)) rfl ?_)
  refine xl_nil ?_
  refine xc_seq ?_
  refine xc_region ?_
  refine xl_op (P := Try.prog) (some 29) rfl rfl (ox_move (v := (.pointer (some ⟨rb.b, 0, none⟩))) rfl ?_)
  refine xl_op (P := Try.prog) (some 30) rfl rfl (ox_callE (al := [(.pointer (some ⟨rb.b, 0, none⟩))]) pf_67 rfl (ret_mono (spots_calls stv rb w1 (hPb.ext e1) hWb hsb) ?_))
  rintro _ w2 ⟨mbb, m1b, m2b, A3b, A4b, p3b, p4b, rfl, hlmb, hmb, hMb, ho3b, ho4b, hn3b, hn4b, e2⟩
  have he2 := e2.size
  have hlwb : w2.heap.size ≤ w2.heap.size := Nat.le_refl _
  have hk3b : ∀ k, ((.slice A3b ((leafI rb).length) p3b) : Value).ownBlock = some k → k < w2.heap.size := fun k hk => ho3b.lt k hk
  have hk4b : ∀ k, ((.slice A4b ((leafI rb).length) p4b) : Value).ownBlock = some k → k < w2.heap.size := fun k hk => ho4b.lt k hk
  refine xl_op (P := Try.prog) (some 28) rfl rfl (ox_move (v := (.tuple #[(.map (some mbb)), (.slice A3b ((leafI rb).length) p3b), (.slice A4b ((leafI rb).length) p4b)])) rfl ?_)
  refine xl_op (P := Try.prog) (some 31) rfl rfl (ox_extract (vs := #[(.map (some mbb)), (.slice A3b ((leafI rb).length) p3b), (.slice A4b ((leafI rb).length) p4b)]) (v := (.map (some mbb))) rfl rfl ?_)
  refine xl_op (P := Try.prog) (some 32) rfl rfl (ox_extract (vs := #[(.map (some mbb)), (.slice A3b ((leafI rb).length) p3b), (.slice A4b ((leafI rb).length) p4b)]) (v := (.slice A3b ((leafI rb).length) p3b)) rfl rfl ?_)
  refine xl_op (P := Try.prog) (some 33) rfl rfl (ox_extract (vs := #[(.map (some mbb)), (.slice A3b ((leafI rb).length) p3b), (.slice A4b ((leafI rb).length) p4b)]) (v := (.slice A4b ((leafI rb).length) p4b)) rfl rfl ?_)
  refine xl_op (P := Try.prog) (some 9) rfl rfl (ox_assign (v := (.map (some mbb))) rfl ?_)
  refine xl_op (P := Try.prog) (some 10) rfl rfl (ox_assign (v := (.slice A3b ((leafI rb).length) p3b)) rfl ?_)
  refine xl_op (P := Try.prog) (some 11) rfl rfl (ox_assign (v := (.slice A4b ((leafI rb).length) p4b)) rfl ?_)
  refine xl_nil ?_
  refine xc_seq ?_
  refine xc_region ?_
  refine xl_op (P := Try.prog) (some 12) rfl rfl (ox_alloc tZ_34 ?_)
  intro w3 e3 z1 b1
  replace b1 : Blk w3 w2.heap.size #[(.slice none 0 0)] 34 := b1
  refine xl_nil ?_
  refine xc_seq ?_
  refine xc_region ?_
  refine xl_op (P := Try.prog) (some 13) rfl rfl (ox_alloc tZ_3 ?_)
  intro w4 e4 z2 b2
  replace b2 : Blk w4 w3.heap.size #[(.int .i64 0)] 3 := b2
  refine xl_op (P := Try.prog) (some 14) rfl rfl (ox_alloc tZ_3 ?_)
  intro w5 e5 z3 b3
  replace b3 : Blk w5 w4.heap.size #[(.int .i64 0)] 3 := b3
  refine xl_op (P := Try.prog) none rfl rfl (ox_store (n := 1) (vs := [(.int .i64 0)]) tS_3 rfl (v := (.int .i64 0)) rfl rfl rfl rfl (b2.ext e5) (Nat.le_of_ble_eq_true rfl) ?_)
  intro w6 e6 z4 b4
  replace b4 : Blk w6 w3.heap.size #[(.int .i64 0)] 3 := b4
  have q1 := (b3.keep1 e6 (by have _q := b3.lt; omega))
  refine xl_op (P := Try.prog) none rfl rfl (ox_store (n := 1) (vs := [(.int .i64 0)]) tS_3 rfl (v := (.int .i64 0)) rfl rfl rfl rfl q1 (Nat.le_of_ble_eq_true rfl) ?_)
  intro w7 e7 z5 b5
  replace b5 : Blk w7 w4.heap.size #[(.int .i64 0)] 3 := b5
  refine xl_nil ?_
  refine xc_seq ?_
  refine xc_region ?_
  refine xl_op (P := Try.prog) (some 34) rfl rfl (ox_mkFunc (cs := [(.pointer (some ⟨w3.heap.size, 0, none⟩)), (.pointer (some ⟨w4.heap.size, 0, none⟩)), (.pointer (some ⟨w2.heap.size, 0, none⟩))]) rfl ?_)
  refine xl_op (P := Try.prog) (some 15) rfl rfl (ox_assign (v := (.func (.func 68) #[] #[(.pointer (some ⟨w3.heap.size, 0, none⟩)), (.pointer (some ⟨w4.heap.size, 0, none⟩)), (.pointer (some ⟨w2.heap.size, 0, none⟩))])) rfl ?_)
  refine xl_nil ?_
  refine xc_seq ?_
  refine xc_seq ?_
  refine xc_region ?_
  refine xl_op (P := Try.prog) (some 35) rfl rfl (ox_move (v := (.slice A4a ((leafI ra).length) p4a)) rfl ?_)
  refine xl_op (P := Try.prog) (some 36) rfl rfl (ox_len (A := A4a) (n := ((leafI ra).length)) (cp := p4a) rfl tU_42 rfl ?_)
  refine xl_op (P := Try.prog) (some 37) rfl rfl (ox_move (v := (.int .i64 0)) rfl ?_)
  refine xl_nil ?_
  refine xc_block ?_
  have q2 := (b4.keep1 e7 (by have _q := b4.lt; omega))
  have q3 := (((b1.ext e4).ext e5).keep1 e6 (((b1.ext e4).ext e5).ne (b2.ext e5) (by decide)))
  have hkn : ∀ k, ((.slice A4a ((leafI ra).length) p4a) : Value).ownBlock = some k → k < w3.heap.size ∧ k < w4.heap.size := fun k hk => by have := hk4a k hk; have := e2.size; omega
  have hlb0 := q2.lt
  have hlb1 := b5.lt
  have hlb2 := (q3.keep1 e7 (q3.ne q1 (by decide))).lt
  have q4 := (((((hma.ext e2).ext e3).ext e4).ext e5).keep1 e6 (fun _h => ((((hma.ext e2).ext e3).ext e4).ext e5).ne_blk (b2.ext e5) _h))
  have q5 := (q4.keep1 e7 (fun _h => q4.ne_blk q1 _h))
  have q6 := ((((hmb.ext e3).ext e4).ext e5).keep1 e6 (fun _h => (((hmb.ext e3).ext e4).ext e5).ne_blk (b2.ext e5) _h))
  have q7 := (q6.keep1 e7 (fun _h => q6.ne_blk q1 _h))
  have q8 := (((((ho4a.ext e2).ext e3).ext e4).ext e5).keep1 e6 (fun k hk => by have _q := (((ho4a.ext e2).ext e3).lt) k hk; omega))
  have q9 := (q8.keep1 e7 (fun k hk => by have _q := ((((ho4a.ext e2).ext e3).ext e4).lt) k hk; omega))
  have q10 := ((((ho3b.ext e3).ext e4).ext e5).keep1 e6 (fun k hk => (((ho3b.ext e3).ext e4).ext e5).ne_blk (b2.ext e5) (by decide) k hk))
  have q11 := (q10.keep1 e7 (fun k hk => q10.ne_blk q1 (by decide) k hk))
  refine xc_loopN (fun m f W => ∃ (i : Nat) (A : Option Addr) (cp : Nat), m = (leafI ra).length - i ∧ i ≤ (leafI ra).length ∧ f 6 = (.map (some mba)) ∧ f 7 = (.slice A3a ((leafI ra).length) p3a) ∧ f 9 = (.map (some mbb)) ∧ f 10 = (.slice A3b ((leafI rb).length) p3b) ∧ f 12 = (.pointer (some ⟨w2.heap.size, 0, none⟩)) ∧ f 13 = (.pointer (some ⟨w3.heap.size, 0, none⟩)) ∧ f 14 = (.pointer (some ⟨w4.heap.size, 0, none⟩)) ∧ f 15 = (.func (.func 68) #[] #[(.pointer (some ⟨w3.heap.size, 0, none⟩)), (.pointer (some ⟨w4.heap.size, 0, none⟩)), (.pointer (some ⟨w2.heap.size, 0, none⟩))]) ∧ f 35 = (.slice A4a ((leafI ra).length) p4a) ∧ f 36 = (.int .i64 (((leafI ra).length : Nat))) ∧ f 37 = (.int .i64 ((i : Nat))) ∧ Blk W w3.heap.size #[(.int .i64 ((hgo (ids (leafI ra)) (ids (leafI rb)) i).1))] 3 ∧ Blk W w4.heap.size #[(.int .i64 ((hgo (ids (leafI ra)) (ids (leafI rb)) i).2.1))] 3 ∧ Blk W w2.heap.size #[(.slice A ((hgo (ids (leafI ra)) (ids (leafI rb)) i).2.2.length) cp)] 34 ∧ Vx.Own W 40 4 (.slice A ((hgo (ids (leafI ra)) (ids (leafI rb)) i).2.2.length) cp) ((hgo (ids (leafI ra)) (ids (leafI rb)) i).2.2.length) (hkC (hgo (ids (leafI ra)) (ids (leafI rb)) i).2.2) ∧ (∀ k, ((.slice A ((hgo (ids (leafI ra)) (ids (leafI rb)) i).2.2.length) cp) : Value).ownBlock = some k → w.heap.size ≤ k) ∧ MapB encI W mba m1a ∧ MapB encI W mbb m1b ∧ Vx.Own W 3 1 (.slice A4a ((leafI ra).length) p4a) (leafI ra).length ((ids (leafI ra)).map fun i => .int .i64 i) ∧ Vx.Own W 130 3 (.slice A3b ((leafI rb).length) p3b) (leafI rb).length (spC (spL (leafI rb))) ∧ Ext w W ∧ w7.heap.size ≤ W.heap.size) ((leafI ra).length) ?_ ?_
  · exact ⟨0, none, 0, by omega, by omega, rfl, rfl, rfl, rfl, rfl, rfl, rfl, rfl, rfl, (by first | exact rfl | exact (congrArg (Value.int .i64) (by omega))), (by first | exact rfl | exact (congrArg (Value.int .i64) (by omega))), (by simpa [hgo, hkC] using q2), (by simpa [hgo, hkC] using b5), (by simpa [hgo, hkC] using (q3.keep1 e7 (q3.ne q1 (by decide)))), (by simpa [hgo, hkC] using (Vx.Own.nil w7 40 4)), (by simp [Value.ownBlock]), q5, q7, q9, q11, (Ext.chg1 (Ext.chg1 (Ext.trans (Ext.trans (Ext.trans (Ext.trans e1 e2) e3) e4) e5) e6 (by omega)) e7 (by omega)), Nat.le_refl _⟩
  · rintro m f1 w8 ⟨i, A, cp, hm, hi, g6_f1, g7_f1, g9_f1, g10_f1, g12_f1, g13_f1, g14_f1, g15_f1, g35_f1, g36_f1, g37_f1, bf_f1, bi_f1, bo_f1, o_f1, hol_f1, map_mba_f1, map_mbb_f1, o4a_f1, o3b_f1, e_f1, z_f1⟩
    have hbd := hgo_bd (ids (leafI ra)) (ids (leafI rb)) i (by rw [ids_len]; omega)
    simp only [ids_len] at hbd
    have hzE := e_f1.size
    refine xc_seq ?_
    refine xc_region ?_
    refine xl_op (P := Try.prog) (some 38) rfl rfl (ox_lss (k := .i64) (a := ((i : Nat))) (b := (((leafI ra).length : Nat))) g37_f1 g36_f1 ?_)
    refine xl_nil ?_
    refine xc_seq ?_
    refine xc_if (p := ((i : Nat) : Int) < (((leafI ra).length : Nat))) rfl (fun h1 => ?_) (fun h1 => ?_)
    · skip
      have hil : i < (leafI ra).length := by omega
      obtain ⟨k, hk⟩ := get_ex (l := ids (leafI ra)) (i := i) (by rw [ids_len]; omega)
      obtain ⟨g, cap, heq, hcap⟩ := o4a_f1.some_of (by omega)
      simp only [Value.slice.injEq, true_and] at heq
      obtain ⟨hA4, hcp4⟩ := heq
      have hcell : w8.cell? ⟨g, 0 + ((i : Nat) : Int).toNat * 1, none⟩ = some (.int .i64 k) := by
        have h5 := o4a_f1; rw [hA4, hcp4] at h5
        have := (h5.cells (o := i) (vs := [.int .i64 k]) (by intro j v hj; cases j with | zero => simp at hj; subst hj; simp [hk] | succ j => simp at hj)).1
        simpa using this
      have gA1 := g35_f1; rw [hA4] at gA1
      obtain ⟨s1, s2, s3, hsv, _⟩ := hMa.cells k
      obtain ⟨r1, r2, r3, hrv, hrj⟩ := hMb.cells k
      refine xc_skip ?_
      refine xc_seq ?_
      refine xc_block ?_
      refine xc_seq ?_
      refine xc_region ?_
      refine xl_op (P := Try.prog) (some 39) rfl rfl (ox_move (v := (.int .i64 ((i : Nat)))) g37_f1 ?_)
      refine xl_op (P := Try.prog) (some 40) rfl rfl (ox_indexAddr (b := g) (o := 0) (i := ((i : Nat))) tE_42 gA1 g37_f1 (by omega) (by omega) ?_)
      refine xl_op (P := Try.prog) (some 41) rfl rfl (ox_load (v := (.int .i64 k)) tA_3 rfl hcell ?_)
      refine xl_op (P := Try.prog) (some 16) rfl rfl (ox_assign (v := (.int .i64 ((i : Nat)))) rfl ?_)
      refine xl_op (P := Try.prog) (some 17) rfl rfl (ox_assign (v := (.int .i64 k)) rfl ?_)
      refine xl_nil ?_
      refine xc_seq ?_
      refine xc_region ?_
      refine xl_op (P := Try.prog) (some 43) rfl rfl (ox_move (v := (.map (some mba))) g6_f1 ?_)
      refine xl_op (P := Try.prog) (some 44) rfl rfl (ox_move (v := (.int .i64 k)) rfl ?_)
      refine xl_op (P := Try.prog) (some 45) rfl rfl (ox_lookup2V (enc := (fun i : Int => .int .i64 i)) (.agg #[(.int .i64 s1), (.int .i64 s2), (.int .i64 s3)]) ((lookM m1a k).isSome) (keyT_int tU_3) tU_144 tZ_130 map_mba_f1 rfl rfl hsv rfl ?_)
      refine xl_op (P := Try.prog) (some 42) rfl rfl (ox_move (v := (.tuple #[(.agg #[(.int .i64 s1), (.int .i64 s2), (.int .i64 s3)]), (.bool ((lookM m1a k).isSome))])) rfl ?_)
      refine xl_op (P := Try.prog) (some 46) rfl rfl (ox_extract (vs := #[(.agg #[(.int .i64 s1), (.int .i64 s2), (.int .i64 s3)]), (.bool ((lookM m1a k).isSome))]) (v := (.agg #[(.int .i64 s1), (.int .i64 s2), (.int .i64 s3)])) rfl rfl ?_)
      refine xl_op (P := Try.prog) (some 47) rfl rfl (ox_extract (vs := #[(.agg #[(.int .i64 s1), (.int .i64 s2), (.int .i64 s3)]), (.bool ((lookM m1a k).isSome))]) (v := (.bool ((lookM m1a k).isSome))) rfl rfl ?_)
      refine xl_op (P := Try.prog) (some 18) rfl rfl (ox_alloc tZ_130 ?_)
      intro w9 e8 z6 b6
      replace b6 : Blk w9 w8.heap.size #[(.int .i64 0), (.int .i64 0), (.int .i64 0)] 130 := b6
      refine xl_op (P := Try.prog) none rfl rfl (ox_store (n := 3) (vs := [(.int .i64 s1), (.int .i64 s2), (.int .i64 s3)]) tS_130 rfl (v := (.agg #[(.int .i64 s1), (.int .i64 s2), (.int .i64 s3)])) rfl rfl rfl rfl b6 (Nat.le_of_ble_eq_true rfl) ?_)
      intro w10 e9 z7 b7
      replace b7 : Blk w10 w8.heap.size #[(.int .i64 s1), (.int .i64 s2), (.int .i64 s3)] 130 := blk_full b7 rfl
      refine xl_op (P := Try.prog) (some 19) rfl rfl (ox_assign (v := (.bool ((lookM m1a k).isSome))) rfl ?_)
      refine xl_nil ?_
      refine xc_seq ?_
      refine xc_region ?_
      refine xl_op (P := Try.prog) (some 49) rfl rfl (ox_move (v := (.map (some mbb))) g9_f1 ?_)
      refine xl_op (P := Try.prog) (some 50) rfl rfl (ox_move (v := (.int .i64 k)) rfl ?_)
      have q12 := ((map_mbb_f1.ext e8).keep1 e9 (fun _h => (map_mbb_f1.ext e8).ne_blk b6 _h))
      refine xl_op (P := Try.prog) (some 51) rfl rfl (ox_lookup2V (enc := (fun i : Int => .int .i64 i)) (.agg #[(.int .i64 r1), (.int .i64 r2), (.int .i64 r3)]) ((lookM m1b k).isSome) (keyT_int tU_3) tU_144 tZ_130 q12 rfl rfl hrv rfl ?_)
      refine xl_op (P := Try.prog) (some 48) rfl rfl (ox_move (v := (.tuple #[(.agg #[(.int .i64 r1), (.int .i64 r2), (.int .i64 r3)]), (.bool ((lookM m1b k).isSome))])) rfl ?_)
      refine xl_op (P := Try.prog) (some 52) rfl rfl (ox_extract (vs := #[(.agg #[(.int .i64 r1), (.int .i64 r2), (.int .i64 r3)]), (.bool ((lookM m1b k).isSome))]) (v := (.agg #[(.int .i64 r1), (.int .i64 r2), (.int .i64 r3)])) rfl rfl ?_)
      refine xl_op (P := Try.prog) (some 53) rfl rfl (ox_extract (vs := #[(.agg #[(.int .i64 r1), (.int .i64 r2), (.int .i64 r3)]), (.bool ((lookM m1b k).isSome))]) (v := (.bool ((lookM m1b k).isSome))) rfl rfl ?_)
      refine xl_op (P := Try.prog) (some 20) rfl rfl (ox_alloc tZ_130 ?_)
      intro w11 e10 z8 b8
      replace b8 : Blk w11 w10.heap.size #[(.int .i64 0), (.int .i64 0), (.int .i64 0)] 130 := b8
      refine xl_op (P := Try.prog) none rfl rfl (ox_store (n := 3) (vs := [(.int .i64 r1), (.int .i64 r2), (.int .i64 r3)]) tS_130 rfl (v := (.agg #[(.int .i64 r1), (.int .i64 r2), (.int .i64 r3)])) rfl rfl rfl rfl b8 (Nat.le_of_ble_eq_true rfl) ?_)
      intro w12 e11 z9 b9
      replace b9 : Blk w12 w10.heap.size #[(.int .i64 r1), (.int .i64 r2), (.int .i64 r3)] 130 := blk_full b9 rfl
      refine xl_op (P := Try.prog) (some 21) rfl rfl (ox_assign (v := (.bool ((lookM m1b k).isSome))) rfl ?_)
      refine xl_nil ?_
      refine xc_seq ?_
      refine xc_region ?_
      refine xl_op (P := Try.prog) (some 54) rfl rfl (ox_move (v := (.bool ((lookM m1a k).isSome))) rfl ?_)
      refine xl_op (P := Try.prog) (some 55) rfl rfl (ox_move (v := (.bool ((lookM m1a k).isSome))) rfl ?_)
      refine xl_may (P := Try.prog) (some 56) (j := 1) (b := true) ((((lookM m1a k).isSome)) = true) (.bool ((lookM m1a k).isSome)) (.bool ((lookM m1b k).isSome)) rfl rfl rfl (may_b (((lookM m1a k).isSome)) true) (fun hp => ox_move (v := (.bool ((lookM m1b k).isSome))) rfl ⟨rfl, rfl⟩) ?_
      refine xl_op (P := Try.prog) (some 57) rfl rfl (ox_pick_and (a := (((lookM m1a k).isSome))) (b := (((lookM m1b k).isSome))) rfl (fun ha => (if_pos (α := Value) (t := (.bool ((lookM m1b k).isSome))) (e := undef) ha)) rfl ?_)
      refine xl_op (P := Try.prog) (some 58) rfl rfl (ox_move (v := (.bool ((((lookM m1a k).isSome)) && (((lookM m1b k).isSome))))) rfl ?_)
      refine xl_may (P := Try.prog) (some 59) (j := 4) (b := true) ((((((lookM m1a k).isSome)) && (((lookM m1b k).isSome)))) = true) (.bool ((((lookM m1a k).isSome)) && (((lookM m1b k).isSome)))) (.pointer (some ⟨w10.heap.size, 0, none⟩)) rfl rfl rfl (may_b (((((lookM m1a k).isSome)) && (((lookM m1b k).isSome)))) true) (fun hp => ox_fieldAddr (b := w10.heap.size) (o := 0) tF_130_0 rfl ⟨rfl, rfl⟩) ?_
      refine xl_may (P := Try.prog) (some 60) (j := 4) (b := true) ((((((lookM m1a k).isSome)) && (((lookM m1b k).isSome)))) = true) (.bool ((((lookM m1a k).isSome)) && (((lookM m1b k).isSome)))) (.int .i64 r1) rfl rfl rfl (may_b (((((lookM m1a k).isSome)) && (((lookM m1b k).isSome)))) true) (fun hp => ox_load (v := (.int .i64 r1)) tA_3 (if_pos (α := Value) (t := (.pointer (some ⟨w10.heap.size, 0, none⟩))) (e := undef) hp) (b9.cell rfl) ⟨rfl, rfl⟩) ?_
      have q13 := ((bi_f1.ext e8).keep1 e9 ((bi_f1.ext e8).ne b6 (by decide)))
      have q14 := ((q13.ext e10).keep1 e11 ((q13.ext e10).ne b8 (by decide)))
      refine xl_may (P := Try.prog) (some 61) (j := 4) (b := true) ((((((lookM m1a k).isSome)) && (((lookM m1b k).isSome)))) = true) (.bool ((((lookM m1a k).isSome)) && (((lookM m1b k).isSome)))) (.int .i64 ((hgo (ids (leafI ra)) (ids (leafI rb)) i).2.1)) rfl rfl rfl (may_b (((((lookM m1a k).isSome)) && (((lookM m1b k).isSome)))) true) (fun hp => ox_load (v := (.int .i64 ((hgo (ids (leafI ra)) (ids (leafI rb)) i).2.1))) tA_3 g14_f1 (q14.cell rfl) ⟨rfl, rfl⟩) ?_
      refine xl_may (P := Try.prog) (some 62) (j := 4) (b := true) ((((((lookM m1a k).isSome)) && (((lookM m1b k).isSome)))) = true) (.bool ((((lookM m1a k).isSome)) && (((lookM m1b k).isSome)))) (.bool (decide (((hgo (ids (leafI ra)) (ids (leafI rb)) i).2.1 : Int) ≤ r1))) rfl rfl rfl (may_b (((((lookM m1a k).isSome)) && (((lookM m1b k).isSome)))) true) (fun hp => ox_geq (k := .i64) (a := r1) (b := ((hgo (ids (leafI ra)) (ids (leafI rb)) i).2.1)) (if_pos (α := Value) (t := (.int .i64 r1)) (e := undef) hp) (if_pos (α := Value) (t := (.int .i64 ((hgo (ids (leafI ra)) (ids (leafI rb)) i).2.1))) (e := undef) hp) ⟨rfl, rfl⟩) ?_
      refine xl_op (P := Try.prog) (some 63) rfl rfl (ox_pick_and (a := (((((lookM m1a k).isSome)) && (((lookM m1b k).isSome))))) (b := ((decide (((hgo (ids (leafI ra)) (ids (leafI rb)) i).2.1 : Int) ≤ r1)))) rfl (fun ha => (if_pos (α := Value) (t := (.bool (decide (((hgo (ids (leafI ra)) (ids (leafI rb)) i).2.1 : Int) ≤ r1)))) (e := undef) ha)) rfl ?_)
      refine xl_nil ?_
      refine xc_cond (b := ((((((lookM m1a k).isSome)) && (((lookM m1b k).isSome)))) && ((decide (((hgo (ids (leafI ra)) (ids (leafI rb)) i).2.1 : Int) ≤ r1))))) rfl (fun h2 => ?_) (fun h2 => ?_)
      · skip
        have h2' := h2
        try simp only [Bool.or_eq_true, Bool.and_eq_true, decide_eq_true_eq, Bool.or_eq_false_iff, Bool.and_eq_false_iff, decide_eq_false_iff_not, Bool.not_eq_true', Bool.not_eq_false'] at h2'
        simp only [Bool.and_eq_true, decide_eq_true_eq] at h2
        obtain ⟨hst, hr0, hr1⟩ := hstep_yes hMa hMb (s := (hgo (ids (leafI ra)) (ids (leafI rb)) i)) hk h2.1.1 h2.1.2 hrj h2.2
        refine xc_region ?_
        refine xl_op (P := Try.prog) (some 64) rfl rfl (ox_move (v := (.func (.func 68) #[] #[(.pointer (some ⟨w3.heap.size, 0, none⟩)), (.pointer (some ⟨w4.heap.size, 0, none⟩)), (.pointer (some ⟨w2.heap.size, 0, none⟩))])) g15_f1 ?_)
        refine xl_op (P := Try.prog) (some 65) rfl rfl (ox_move (v := (.int .i64 ((i : Nat)))) rfl ?_)
        refine xl_op (P := Try.prog) (some 66) rfl rfl (ox_fieldAddr (b := w10.heap.size) (o := 0) tF_130_0 rfl ?_)
        refine xl_op (P := Try.prog) (some 67) rfl rfl (ox_load (v := (.int .i64 r1)) tA_3 rfl (b9.cell rfl) ?_)
        have q15 := ((bf_f1.ext e8).keep1 e9 ((bf_f1.ext e8).ne b6 (by decide)))
        have q16 := ((q15.ext e10).keep1 e11 ((q15.ext e10).ne b8 (by decide)))
        have q17 := ((bi_f1.ext e8).keep1 e9 ((bi_f1.ext e8).ne b6 (by decide)))
        have q18 := ((q17.ext e10).keep1 e11 ((q17.ext e10).ne b8 (by decide)))
        have q19 := ((bo_f1.ext e8).keep1 e9 ((bo_f1.ext e8).ne b6 (by decide)))
        have q20 := ((q19.ext e10).keep1 e11 ((q19.ext e10).ne b8 (by decide)))
        have q21 := ((o_f1.ext e8).keep1 e9 (fun k hk => (o_f1.ext e8).ne_blk b6 (by decide) k hk))
        have q22 := ((q21.ext e10).keep1 e11 (fun k hk => (q21.ext e10).ne_blk b8 (by decide) k hk))
        refine xl_op (P := Try.prog) (some 68) rfl rfl (ox_callV (cap := [(.pointer (some ⟨w3.heap.size, 0, none⟩)), (.pointer (some ⟨w4.heap.size, 0, none⟩)), (.pointer (some ⟨w2.heap.size, 0, none⟩))]) (al := [(.int .i64 ((i : Nat))), (.int .i64 r1)]) pf_68 rfl rfl (ret_mono (upto_calls w3.heap.size w4.heap.size w2.heap.size (hgo (ids (leafI ra)) (ids (leafI rb)) i).1 (hgo (ids (leafI ra)) (ids (leafI rb)) i).2.1 ((i : Nat)) r1 (hgo (ids (leafI ra)) (ids (leafI rb)) i).2.2 A cp w12 q16 q18 (by omega) q20 q22 ⟨by omega, by omega, by omega, by omega, by omega⟩) ?_))
        rintro _ w13 ⟨An1, cn1, hfn1, hin1, hon1, hwn1, hnn1, e12⟩
        have he12 := e12.size
        refine xl_nil ?_
        refine xc_region ?_
        refine xl_op (P := Try.prog) (some 69) rfl rfl (ox_add64 (a := ((i : Nat))) (b := 1) g37_f1 rfl (by omega) ?_)
        refine xl_op (P := Try.prog) (some 37) rfl rfl (ox_move (v := (.int .i64 ((i : Nat) + 1))) rfl ?_)
        refine xl_nil ?_
        have hsucc : (hgo (ids (leafI ra)) (ids (leafI rb)) (i + 1)) = (hadd (hgo (ids (leafI ra)) (ids (leafI rb)) i) ((i : Nat)) r1) := by rw [hgo_succ]; exact hst
        have hn1 := hfn1
        have hn2 := hin1
        have hn3 := hon1
        have hn4 := hwn1
        have hsz0 := e8.size
        have hsz1 := e9.size
        have hsz2 := e10.size
        have hsz3 := e11.size
        have hsz4 := e12.size
        have q23 := ((map_mba_f1.ext e8).keep1 e9 (fun _h => (map_mba_f1.ext e8).ne_blk b6 _h))
        have q24 := ((q23.ext e10).keep1 e11 (fun _h => (q23.ext e10).ne_blk b8 _h))
        have q25 := (q24.keep e12 (fun hb => hb.elim (fun hb => hb.elim (fun hb => q24.ne_blk q16 hb) fun hb => hb.elim (fun hb => q24.ne_blk q18 hb) fun hb => q24.ne_blk q20 hb) fun hb => q22.ne_map q24 _ hb rfl))
        have q26 := ((q12.ext e10).keep1 e11 (fun _h => (q12.ext e10).ne_blk b8 _h))
        have q27 := (q26.keep e12 (fun hb => hb.elim (fun hb => hb.elim (fun hb => q26.ne_blk q16 hb) fun hb => hb.elim (fun hb => q26.ne_blk q18 hb) fun hb => q26.ne_blk q20 hb) fun hb => q22.ne_map q26 _ hb rfl))
        have q28 := ((o4a_f1.ext e8).keep1 e9 (fun k hk => (o4a_f1.ext e8).ne_blk b6 (by decide) k hk))
        have q29 := ((q28.ext e10).keep1 e11 (fun k hk => (q28.ext e10).ne_blk b8 (by decide) k hk))
        have q30 := (q29.keep e12 (fun k hk hb => hb.elim (fun hb => hb.elim (fun hb => (absurd hb (by have := hkn k hk; omega))) fun hb => hb.elim (fun hb => (absurd hb (by have := hkn k hk; omega))) fun hb => q29.ne_blk q20 (by decide) k hk hb) fun hb => q29.ne_own q22 (by decide) k hk hb))
        have q31 := ((o3b_f1.ext e8).keep1 e9 (fun k hk => by have _q := (o3b_f1.lt) k hk; omega))
        have q32 := ((q31.ext e10).keep1 e11 (fun k hk => by have _q := (q31.lt) k hk; omega))
        have q33 := (q32.keep e12 (fun k hk hb => hb.elim (fun hb => hb.elim (fun hb => (q32.ne_blk q16 (by decide) k hk hb)) fun hb => hb.elim (fun hb => (q32.ne_blk q18 (by decide) k hk hb)) fun hb => q32.ne_blk q20 (by decide) k hk hb) fun hb => q32.ne_own q22 (by decide) k hk hb))
        exact ⟨rfl, (leafI ra).length - (i + 1), by omega, i + 1, An1, cn1, by omega, by omega, g6_f1, g7_f1, g9_f1, g10_f1, g12_f1, g13_f1, g14_f1, g15_f1, g35_f1, g36_f1, (by first | exact rfl | exact (congrArg (Value.int .i64) (by omega))), (by rw [hsucc]; exact hn1), (by rw [hsucc]; exact hn2), (by rw [hsucc]; exact hn3), (by rw [hsucc]; exact hn4), (by rw [hsucc]; intro k hk; exact (hnn1 k hk).elim (fun h9 => hol_f1 k h9) (fun h9 => by omega)), q25, q27, q30, q33, (Chg.trans (Ext.chg1 (Ext.trans (Ext.chg1 (Ext.trans e_f1 e8) e9 (by omega)) e10) e11 (by omega)) e12 (fun b hb hl => absurd hl (by exact hb.elim (fun hb => by omega) (fun hb => by have := hol_f1 b hb; omega)))), (by omega)⟩
      · skip
        have h2' := h2
        try simp only [Bool.or_eq_true, Bool.and_eq_true, decide_eq_true_eq, Bool.or_eq_false_iff, Bool.and_eq_false_iff, decide_eq_false_iff_not, Bool.not_eq_true', Bool.not_eq_false'] at h2'
        have hst := hstep_no hMa hMb (s := (hgo (ids (leafI ra)) (ids (leafI rb)) i)) hk hrj h2
        refine xc_skip ?_
        refine xc_region ?_
        refine xl_op (P := Try.prog) (some 69) rfl rfl (ox_add64 (a := ((i : Nat))) (b := 1) g37_f1 rfl (by omega) ?_)
        refine xl_op (P := Try.prog) (some 37) rfl rfl (ox_move (v := (.int .i64 ((i : Nat) + 1))) rfl ?_)
        refine xl_nil ?_
        have hsucc : (hgo (ids (leafI ra)) (ids (leafI rb)) (i + 1)) = (hgo (ids (leafI ra)) (ids (leafI rb)) i) := by rw [hgo_succ]; exact hst
        have q34 := ((bf_f1.ext e8).keep1 e9 ((bf_f1.ext e8).ne b6 (by decide)))
        have q35 := ((q34.ext e10).keep1 e11 ((q34.ext e10).ne b8 (by decide)))
        have hn1 := q35
        have q36 := ((bi_f1.ext e8).keep1 e9 ((bi_f1.ext e8).ne b6 (by decide)))
        have q37 := ((q36.ext e10).keep1 e11 ((q36.ext e10).ne b8 (by decide)))
        have hn2 := q37
        have q38 := ((bo_f1.ext e8).keep1 e9 ((bo_f1.ext e8).ne b6 (by decide)))
        have q39 := ((q38.ext e10).keep1 e11 ((q38.ext e10).ne b8 (by decide)))
        have hn3 := q39
        have q40 := ((o_f1.ext e8).keep1 e9 (fun k hk => (o_f1.ext e8).ne_blk b6 (by decide) k hk))
        have q41 := ((q40.ext e10).keep1 e11 (fun k hk => (q40.ext e10).ne_blk b8 (by decide) k hk))
        have hn4 := q41
        rw [← hsucc] at hn1 hn2 hn3 hn4
        have hsz0 := e8.size
        have hsz1 := e9.size
        have hsz2 := e10.size
        have hsz3 := e11.size
        have q42 := ((map_mba_f1.ext e8).keep1 e9 (fun _h => (map_mba_f1.ext e8).ne_blk b6 _h))
        have q43 := ((q42.ext e10).keep1 e11 (fun _h => (q42.ext e10).ne_blk b8 _h))
        have q44 := ((q12.ext e10).keep1 e11 (fun _h => (q12.ext e10).ne_blk b8 _h))
        have q45 := ((o4a_f1.ext e8).keep1 e9 (fun k hk => (o4a_f1.ext e8).ne_blk b6 (by decide) k hk))
        have q46 := ((q45.ext e10).keep1 e11 (fun k hk => (q45.ext e10).ne_blk b8 (by decide) k hk))
        have q47 := ((o3b_f1.ext e8).keep1 e9 (fun k hk => by have _q := (o3b_f1.lt) k hk; omega))
        have q48 := ((q47.ext e10).keep1 e11 (fun k hk => by have _q := (q47.lt) k hk; omega))
        exact ⟨rfl, (leafI ra).length - (i + 1), by omega, i + 1, A, cp, by omega, by omega, g6_f1, g7_f1, g9_f1, g10_f1, g12_f1, g13_f1, g14_f1, g15_f1, g35_f1, g36_f1, (by first | exact rfl | exact (congrArg (Value.int .i64) (by omega))), hn1, hn2, hn3, hn4, (by rw [hsucc]; exact hol_f1), q43, q44, q46, q48, (Ext.chg1 (Ext.trans (Ext.chg1 (Ext.trans e_f1 e8) e9 (by omega)) e10) e11 (by omega)), (by omega)⟩
    · skip
      refine xc_exit ?_
      refine xc_seq ?_
      refine xc_region ?_
      refine xl_op (P := Try.prog) (some 70) rfl rfl (ox_move (v := (.func (.func 68) #[] #[(.pointer (some ⟨w3.heap.size, 0, none⟩)), (.pointer (some ⟨w4.heap.size, 0, none⟩)), (.pointer (some ⟨w2.heap.size, 0, none⟩))])) g15_f1 ?_)
      refine xl_op (P := Try.prog) (some 71) rfl rfl (ox_move (v := (.slice A3a ((leafI ra).length) p3a)) g7_f1 ?_)
      refine xl_op (P := Try.prog) (some 72) rfl rfl (ox_len (A := A3a) (n := ((leafI ra).length)) (cp := p3a) rfl tU_105 rfl ?_)
      refine xl_op (P := Try.prog) (some 73) rfl rfl (ox_move (v := (.slice A3b ((leafI rb).length) p3b)) g10_f1 ?_)
      refine xl_op (P := Try.prog) (some 74) rfl rfl (ox_len (A := A3b) (n := ((leafI rb).length)) (cp := p3b) rfl tU_105 rfl ?_)
      refine xl_op (P := Try.prog) (some 75) rfl rfl (ox_callV (cap := [(.pointer (some ⟨w3.heap.size, 0, none⟩)), (.pointer (some ⟨w4.heap.size, 0, none⟩)), (.pointer (some ⟨w2.heap.size, 0, none⟩))]) (al := [(.int .i64 ((((leafI ra).length : Nat) : Int))), (.int .i64 ((((leafI rb).length : Nat) : Int)))]) pf_68 rfl rfl (ret_mono (upto_calls w3.heap.size w4.heap.size w2.heap.size (hgo (ids (leafI ra)) (ids (leafI rb)) i).1 (hgo (ids (leafI ra)) (ids (leafI rb)) i).2.1 ((((leafI ra).length : Nat) : Int)) ((((leafI rb).length : Nat) : Int)) (hgo (ids (leafI ra)) (ids (leafI rb)) i).2.2 A cp w8 bf_f1 bi_f1 (by omega) bo_f1 o_f1 ⟨by omega, by omega, by omega, by omega, by omega⟩) ?_))
      rintro _ w14 ⟨An2, cn2, hfn2, hin2, hon2, hwn2, hnn2, e13⟩
      have he13 := e13.size
      refine xl_nil ?_
      refine xc_seq ?_
      refine xc_region ?_
      refine xl_op (P := Try.prog) (some 76) rfl rfl (ox_load (v := (.slice An2 ((hadd (hgo (ids (leafI ra)) (ids (leafI rb)) i) ((((leafI ra).length : Nat) : Int)) ((((leafI rb).length : Nat) : Int))).2.2.length) cn2)) tA_34 g12_f1 (hon2.cell rfl) ?_)
      refine xl_op (P := Try.prog) (some 77) rfl rfl (ox_move (v := (.slice A3b ((leafI rb).length) p3b)) g10_f1 ?_)
      refine xl_op (P := Try.prog) (some 4) rfl rfl (ox_assign (v := (.slice An2 ((hadd (hgo (ids (leafI ra)) (ids (leafI rb)) i) ((((leafI ra).length : Nat) : Int)) ((((leafI rb).length : Nat) : Int))).2.2.length) cn2)) rfl ?_)
      refine xl_op (P := Try.prog) (some 5) rfl rfl (ox_assign (v := (.slice A3b ((leafI rb).length) p3b)) rfl ?_)
      refine xl_nil ?_
      refine xc_ret ?_
      change leaves _ _ _ _ _ _ _
      refine leaves_nil (n := 78) (rs := [.tmp 4, .tmp 5]) (vs := [(.slice An2 ((hadd (hgo (ids (leafI ra)) (ids (leafI rb)) i) ((((leafI ra).length : Nat) : Int)) ((((leafI rb).length : Nat) : Int))).2.2.length) cn2), (.slice A3b ((leafI rb).length) p3b)]) rfl ⟨⟨by decide, rfl⟩, ⟨by decide, rfl⟩, trivial⟩ ?_
      have hti : i = (leafI ra).length := by omega
      have hH : hunks (ids (leafI ra)) (ids (leafI rb)) = (hadd (hgo (ids (leafI ra)) (ids (leafI rb)) i) ((((leafI ra).length : Nat) : Int)) ((((leafI rb).length : Nat) : Int))).2.2 := by unfold hunks; rw [ids_len, ids_len, hti]
      have hn4 := hwn2
      have q49 := (o3b_f1.keep e13 (fun k hk hb => hb.elim (fun hb => hb.elim (fun hb => (o3b_f1.ne_blk bf_f1 (by decide) k hk hb)) fun hb => hb.elim (fun hb => (o3b_f1.ne_blk bi_f1 (by decide) k hk hb)) fun hb => o3b_f1.ne_blk bo_f1 (by decide) k hk hb) fun hb => o3b_f1.ne_own o_f1 (by decide) k hk hb))
      have hn5 := q49
      have hsz0 := e13.size
      refine ⟨An2, cn2, A3b, p3b, by rw [hH]; rfl, by rw [hH]; exact hn4, hn5, by rw [hH]; intro k hk; exact (hnn2 k hk).elim (fun h9 => hol_f1 k h9) (fun h9 => by omega), fun k hk => by have := hn3b k hk; have := e1.size; omega, (Chg.trans e_f1 e13 (fun b hb hl => absurd hl (by exact hb.elim (fun hb => by omega) (fun hb => by have := hol_f1 b hb; omega))))⟩

end Go.Proofs.Ythhbnodnpajljaa
