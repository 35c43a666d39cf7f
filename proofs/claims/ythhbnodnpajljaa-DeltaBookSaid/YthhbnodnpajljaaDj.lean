/-
  delta.spots: the leaves of a tree, those that stand just once by their numbers. No conditions.
-/
import Derived.Test.YthhbnodnpajljaaVxi
import Derived.Test.YthhbnodnpajljaaRows
import Derived.Test.YthhbnodnpajljaaDz
import Derived.Test.YthhbnodnpajljaaDb
set_option linter.unusedVariables false
set_option linter.unusedSimpArgs false
set_option maxRecDepth 100000
set_option maxHeartbeats 4000000
namespace Go.Proofs.Ythhbnodnpajljaa
open Go Go.RowKit Go.Vx


theorem pf_40 : plainF Try.prog 40 = true := by kernel_rfl
theorem pf_60 : plainF Try.prog 60 = true := by kernel_rfl
theorem pf_61 : plainF Try.prog 61 = true := by kernel_rfl
theorem pf_71 : plainF Try.prog 71 = true := by kernel_rfl
theorem tA_105 : isAggT Try.prog 105 = some false := by kernel_rfl
theorem tA_130 : isAggT Try.prog 130 = some true := by kernel_rfl
theorem tA_144 : isAggT Try.prog 144 = some false := by kernel_rfl
theorem tA_155 : isAggT Try.prog 155 = some false := by kernel_rfl
theorem tA_42 : isAggT Try.prog 42 = some false := by kernel_rfl
theorem tE_105 : sliceT Try.prog 105 = some (130, 3, 24, (.agg #[(.int .i64 0), (.int .i64 0), (.int .i64 0)])) := by kernel_rfl
theorem tE_42 : sliceT Try.prog 42 = some (3, 1, 8, (.int .i64 0)) := by kernel_rfl
theorem tP_130 : placesT Try.prog 130 = some #[(0, 1), (1, 1), (2, 1)] := by kernel_rfl
theorem tP_134 : placesT Try.prog 134 = some #[] := by kernel_rfl
theorem tS_105 : sizeT Try.prog 105 = some 1 := by kernel_rfl
theorem tS_130 : sizeT Try.prog 130 = some 3 := by kernel_rfl
theorem tS_134 : sizeT Try.prog 134 = some 0 := by kernel_rfl
theorem tS_144 : sizeT Try.prog 144 = some 1 := by kernel_rfl
theorem tS_155 : sizeT Try.prog 155 = some 1 := by kernel_rfl
theorem tS_42 : sizeT Try.prog 42 = some 1 := by kernel_rfl
theorem tU_105 : Try.prog.underlying 105 = some (.slice 130) := by kernel_rfl
theorem tU_144 : Try.prog.underlying 144 = some (.map 3 130) := by kernel_rfl
theorem tU_155 : Try.prog.underlying 155 = some (.map 3 134) := by kernel_rfl
theorem tU_3 : Try.prog.underlying 3 = some (.int .i64) := by kernel_rfl
theorem tZ_105 : zeroOf Try.prog 105 = some (.slice none 0 0) := by kernel_rfl
theorem tZ_130 : zeroOf Try.prog 130 = some (.agg #[(.int .i64 0), (.int .i64 0), (.int .i64 0)]) := by kernel_rfl
theorem tZ_134 : zeroOf Try.prog 134 = some (.agg #[]) := by kernel_rfl
theorem tZ_144 : zeroOf Try.prog 144 = some (.map none) := by kernel_rfl
theorem tZ_155 : zeroOf Try.prog 155 = some (.map none) := by kernel_rfl
theorem tZ_42 : zeroOf Try.prog 42 = some (.slice none 0 0) := by kernel_rfl

theorem spots_calls (stv : Value) (root : T) (w : World) (hP : PN stv w root) (hW : WF root) (hsz : sz root ≤ 4194304) :
    Calls Try.prog 67 #[(.pointer (some ⟨root.b, 0, none⟩))] w (Ret (fun v w' => ∃ mb m1 m2 A3 A4 p3 p4, v = .tuple #[.map (some mb), .slice A3 (leafI root).length p3, .slice A4 (leafI root).length p4] ∧ w.heap.size ≤ mb ∧ MapB encI w' mb m1 ∧ SpM (leafI root) m1 m2 ∧ Vx.Own w' 130 3 (.slice A3 (leafI root).length p3) (leafI root).length (spC (spL (leafI root))) ∧ Vx.Own w' 3 1 (.slice A4 (leafI root).length p4) (leafI root).length ((ids (leafI root)).map fun i => .int .i64 i) ∧ (∀ k, (Value.slice A3 (leafI root).length p3).ownBlock = some k → w.heap.size ≤ k) ∧ (∀ k, (Value.slice A4 (leafI root).length p4).ownBlock = some k → w.heap.size ≤ k) ∧ Ext w w')) := by
  refine calls_xc (n := 70) (f := fun s_ => [(.pointer (some ⟨root.b, 0, none⟩))].getD s_ undef) Try.func67 rfl rfl (by simp) (fun s_ => by simp) ?_
  refine xc_seq ?_
  refine xc_region ?_
  refine xl_op (P := Try.prog) (some 2) rfl rfl (ox_assign (v := (.map none)) rfl ?_)
  refine xl_op (P := Try.prog) (some 3) rfl rfl (ox_assign (v := (.slice none 0 0)) rfl ?_)
  refine xl_op (P := Try.prog) (some 4) rfl rfl (ox_assign (v := (.slice none 0 0)) rfl ?_)
  refine xl_nil ?_
  refine xc_seq ?_
  refine xc_region ?_
  refine xl_op (P := Try.prog) (some 16) rfl rfl (ox_makeMap (enc := (fun i : Int => .int .i64 i)) rfl ?_)
  intro w1 e1 z1 m1
  have he1 := e1.size
  refine xl_op (P := Try.prog) (some 5) rfl rfl (ox_alloc tZ_144 ?_)
  intro w2 e2 z2 b1
  replace b1 : Blk w2 w1.heap.size #[(.map none)] 144 := b1
  refine xl_op (P := Try.prog) none rfl rfl (ox_store (n := 1) (vs := [(.map (some w.heap.size))]) tS_144 rfl (v := (.map (some w.heap.size))) rfl rfl rfl rfl b1 (Nat.le_of_ble_eq_true rfl) ?_)
  intro w3 e3 z3 b2
  replace b2 : Blk w3 w1.heap.size #[(.map (some w.heap.size))] 144 := b2
  refine xl_nil ?_
  refine xc_seq ?_
  refine xc_region ?_
  refine xl_op (P := Try.prog) (some 17) rfl rfl (ox_makeMap (enc := (fun i : Int => .int .i64 i)) rfl ?_)
  intro w4 e4 z4 m2
  have he4 := e4.size
  refine xl_op (P := Try.prog) (some 6) rfl rfl (ox_alloc tZ_155 ?_)
  intro w5 e5 z5 b3
  replace b3 : Blk w5 w4.heap.size #[(.map none)] 155 := b3
  refine xl_op (P := Try.prog) none rfl rfl (ox_store (n := 1) (vs := [(.map (some w3.heap.size))]) tS_155 rfl (v := (.map (some w3.heap.size))) rfl rfl rfl rfl b3 (Nat.le_of_ble_eq_true rfl) ?_)
  intro w6 e6 z6 b4
  replace b4 : Blk w6 w4.heap.size #[(.map (some w3.heap.size))] 155 := b4
  refine xl_nil ?_
  refine xc_seq ?_
  refine xc_region ?_
  refine xl_op (P := Try.prog) (some 7) rfl rfl (ox_alloc tZ_105 ?_)
  intro w7 e7 z7 b5
  replace b5 : Blk w7 w6.heap.size #[(.slice none 0 0)] 105 := b5
  refine xl_nil ?_
  refine xc_seq ?_
  refine xc_region ?_
  refine xl_op (P := Try.prog) (some 8) rfl rfl (ox_alloc tZ_42 ?_)
  intro w8 e8 z8 b6
  replace b6 : Blk w8 w7.heap.size #[(.slice none 0 0)] 42 := b6
  refine xl_nil ?_
  refine xc_seq ?_
  refine xc_seq ?_
  refine xc_region ?_
  refine xl_op (P := Try.prog) (some 18) rfl rfl (ox_move (v := (.pointer (some ⟨root.b, 0, none⟩))) rfl ?_)
  refine xl_op (P := Try.prog) (some 19) rfl rfl (ox_callE (al := [(.pointer (some ⟨root.b, 0, none⟩))]) pf_60 rfl (ret_mono (leavesF_calls root.b w8) ?_))
  rintro _ w9 ⟨rfl, hbk, zbk, e9⟩
  have he9 := e9.size
  refine xl_nil ?_
  refine xc_block ?_
  have hE : Ext w w9 := (Ext.trans (Ext.trans (Ext.trans (Ext.chg1 (Ext.trans (Ext.trans (Ext.chg1 (Ext.trans e1 e2) e3 (by omega)) e4) e5) e6 (by omega)) e7) e8) e9)
  have hEs := hE.size
  have hbk0 := hbk.lt
  have q1 := (((b2.ext e4).ext e5).keep1 e6 (((b2.ext e4).ext e5).ne b3 (by decide)))
  have hx0 := (((q1.ext e7).ext e8).ext e9)
  have hl0 := hx0.lt
  have hx1 := (((b4.ext e7).ext e8).ext e9)
  have hl1 := hx1.lt
  have hx2 := ((b5.ext e8).ext e9)
  have hl2 := hx2.lt
  have hx3 := (b6.ext e9)
  have hl3 := hx3.lt
  have q2 := ((m1.ext e2).keep1 e3 (fun _h => (m1.ext e2).ne_blk b1 _h))
  have q3 := (((q2.ext e4).ext e5).keep1 e6 (fun _h => ((q2.ext e4).ext e5).ne_blk b3 _h))
  have hx4 := (((q3.ext e7).ext e8).ext e9)
  have hl4 := hx4.lt
  have q4 := ((m2.ext e5).keep1 e6 (fun _h => (m2.ext e5).ne_blk b3 _h))
  have hx5 := (((q4.ext e7).ext e8).ext e9)
  have hl5 := hx5.lt
  have hlow : ∀ b ∈ blocks root, b < w.heap.size := PN.lt hP
  have hBX : ∀ b, b = w8.heap.size → w.heap.size ≤ b ∧ b < w9.heap.size := fun b hb => by subst hb; omega
  have hit := leaves_iter (X := fun b => b = w8.heap.size) (B := w.heap.size) hbk (hP.ext hE) hW hsz hlow (.inl rfl) hBX (by omega)
  have hI0 : spI w.heap.size w w1.heap.size w4.heap.size w6.heap.size w7.heap.size w.heap.size w3.heap.size [] (fun b => b = w8.heap.size) w9 := ⟨[], [], none, none, 0, 0, hx0, hx1, hx2, hx3, hx4, hx5, SpM.nil, Vx.Own.nil _ _ _, Vx.Own.nil _ _ _, ⟨⟨⟨by omega, by omega⟩, by omega, by omega⟩, by omega, by omega⟩, fun k hk => by simp [Value.ownBlock] at hk, fun k hk => by simp [Value.ownBlock] at hk, ⟨⟨⟨by omega, by omega⟩, by omega, by omega⟩, by omega, by omega⟩, Ext.to hE⟩
  have hwr := wd_bd root
  have hll : (leafI root).length ≤ 4194304 := by have h1 := leafI_len root; omega
  refine xc_range (ps := #[20, 21]) (α := Int × T) (gf := 71) (lb := #[.pointer (some ⟨w8.heap.size, 0, none⟩)]) (encs := encW) (B := w.heap.size) (X0 := fun b => b = w8.heap.size) (xs := leafI root) rfl pf_71 (fun _ => rfl) hit (by omega) hBX (spI w.heap.size w w1.heap.size w4.heap.size w6.heap.size w7.heap.size w.heap.size w3.heap.size) (fun _ _ _ _ => False) spI_stab (fun _ _ _ _ _ _ _ h => h.elim) hI0 ?_ ?_ ?_
  · intro l₁ pre₁ x₁ Y W hpre hY hYl hl₁ hI
    obtain ⟨m1, m2, A3, A4, p3, p4, h⟩ := hI
    have hmem : x₁ ∈ walkT 0 root := (List.mem_filter.1 (hpre.subset (by simp))).1
    have hm := walkT_mem hmem
    have hmb := hm.2.2.2.2 hW
    have hwx := wd_bd x₁.2
    have hlp : pre₁.length + 1 ≤ 4194304 := by have := hpre.length_le; simp at this; omega
    have hpx : PN stv W x₁.2 := PN.keep h.chg (hm.1 stv w hP) fun b hb h => by have := hlow b (hm.2.1 b hb); omega
    have hsz0 := h.chg.size
    obtain ⟨s1, s2, s3, hsv, _⟩ := h.m.cells x₁.2.id
    refine xc_seq ?_
    refine xc_region ?_
    refine xl_op (P := Try.prog) (some 9) rfl rfl (ox_assign (v := (.int .i64 x₁.1)) rfl ?_)
    refine xl_nil ?_
    refine xc_region ?_
    refine xl_op (P := Try.prog) (some 10) rfl rfl (ox_assign (v := (.pointer (some ⟨x₁.2.b, 0, none⟩))) rfl ?_)
    refine xl_nil ?_
    refine ⟨rfl, rfl, Chg.refl _ _, fun W2 hcY hsY hlY => ?_⟩
    have hszY := hcY.size
    refine xc_block ?_
    refine xc_seq ?_
    refine xc_regionE [9] (fun W_ => Chg (fun _ => False) W2 W_) hmix ?_
    intro w10 e10 z9
    have hS1 : Chg (fun _ => False) W2 w10 := Ext.to e10
    refine xd_take 0 (some 22) rfl rfl (by kernel_rfl) (v := (.slice A3 pre₁.length p3)) (.inl ⟨rfl, fun W_ hW_ => ox_load (v := (.slice A3 pre₁.length p3)) tA_105 rfl (((h.k3.keep hcY h.ny.1.2.1).ext hW_).cell rfl) ⟨rfl, rfl⟩⟩) hS1 ?_
    refine xd_pure 1 (some 23) rfl rfl (by kernel_rfl) (v := (.int .i64 (((pre₁.length : Nat) : Int)))) (.inl ⟨rfl, fun W_ hW_ => ox_len (A := A3) (n := pre₁.length) (cp := p3) rfl tU_105 rfl ⟨rfl, rfl⟩⟩) ?_
    refine xd_pure 2 (some 24) rfl rfl (by kernel_rfl) (v := (.int .i64 x₁.1)) (.inl ⟨rfl, fun W_ hW_ => ox_move (v := (.int .i64 x₁.1)) rfl ⟨rfl, rfl⟩⟩) ?_
    refine xd_pure 3 (some 25) rfl rfl (by kernel_rfl) (v := (.int .i64 x₁.1)) (.inl ⟨rfl, fun W_ hW_ => ox_move (v := (.int .i64 x₁.1)) rfl ⟨rfl, rfl⟩⟩) ?_
    refine xd_pure 4 (some 26) rfl rfl (by kernel_rfl) (v := (.pointer (some ⟨x₁.2.b, 0, none⟩))) (.inl ⟨rfl, fun W_ hW_ => ox_move (v := (.pointer (some ⟨x₁.2.b, 0, none⟩))) rfl ⟨rfl, rfl⟩⟩) ?_
    have q5 := (hpx.keep hcY (fun b hb h9 => by have := hlow b (hm.2.1 b hb); have := hY _ h9; omega))
    refine xd_take 5 (some 27) rfl rfl (by kernel_rfl) (v := (.int .i64 (wd x₁.2))) (.inl ⟨rfl, fun W_ hW_ => ox_callE (al := [(.pointer (some ⟨x₁.2.b, 0, none⟩))]) pf_61 rfl (ret_mono (width_calls stv x₁.2 _ (q5.ext hW_)) (by rintro _ _ ⟨rfl, rfl⟩; exact ⟨rfl, rfl⟩))⟩) hS1 ?_
    refine xd_pure 6 (some 28) rfl rfl (by kernel_rfl) (v := (.int .i64 (x₁.1 + (wd x₁.2)))) (.inl ⟨rfl, fun W_ hW_ => ox_add64 (a := x₁.1) (b := (wd x₁.2)) rfl rfl (by omega) ⟨rfl, rfl⟩⟩) ?_
    refine xd_pure 7 (some 29) rfl rfl (by kernel_rfl) (v := (.agg #[(.int .i64 (((pre₁.length : Nat) : Int))), (.int .i64 x₁.1), (.int .i64 (x₁.1 + (wd x₁.2)))])) (.inl ⟨rfl, fun W_ hW_ => ox_mkStruct (ps := [(0, (.int .i64 (((pre₁.length : Nat) : Int)))), (1, (.int .i64 x₁.1)), (2, (.int .i64 (x₁.1 + (wd x₁.2))))]) (cs := #[(.int .i64 (((pre₁.length : Nat) : Int))), (.int .i64 x₁.1), (.int .i64 (x₁.1 + (wd x₁.2)))]) tZ_130 tP_130 rfl (by kernel_rfl) ⟨rfl, rfl⟩⟩) ?_
    refine xd_one 8 (some 11) rfl rfl (by kernel_rfl) rfl (ox_alloc tZ_130 ?_)
    intro w11 e11 z10 b7
    replace b7 : Blk w11 w10.heap.size #[(.int .i64 0), (.int .i64 0), (.int .i64 0)] 130 := b7
    have hS2 : Chg (fun _ => False) W2 w11 := Chg.ext hS1 e11
    refine ⟨.inr fun _ => hS2, ?_⟩
    refine xd_one 9 none rfl rfl (by kernel_rfl) rfl (ox_store (n := 3) (vs := [(.int .i64 (((pre₁.length : Nat) : Int))), (.int .i64 x₁.1), (.int .i64 (x₁.1 + (wd x₁.2)))]) tS_130 rfl (v := (.agg #[(.int .i64 (((pre₁.length : Nat) : Int))), (.int .i64 x₁.1), (.int .i64 (x₁.1 + (wd x₁.2)))])) rfl rfl rfl rfl b7 (Nat.le_of_ble_eq_true rfl) ?_)
    intro w12 e12 z11 b8
    replace b8 : Blk w12 w10.heap.size #[(.int .i64 (((pre₁.length : Nat) : Int))), (.int .i64 x₁.1), (.int .i64 (x₁.1 + (wd x₁.2)))] 130 := blk_full b8 rfl
    refine ⟨.inl (by decide), ?_⟩
    refine xd_done (by kernel_rfl) ?_ _
    refine xc_seq ?_
    refine xc_region ?_
    have q6 := (((h.k3.keep hcY h.ny.1.2.1).ext e10).ext e11)
    refine xl_op (P := Try.prog) (some 30) rfl rfl (ox_load (v := (.slice A3 pre₁.length p3)) tA_105 rfl ((q6.keep1 e12 (q6.ne b7 (by decide))).cell rfl) ?_)
    refine xl_op (P := Try.prog) (some 31) rfl rfl (ox_loadN (vs := [(.int .i64 (((pre₁.length : Nat) : Int))), (.int .i64 x₁.1), (.int .i64 (x₁.1 + (wd x₁.2)))]) tA_130 tS_130 rfl rfl ⟨b8.cell rfl, b8.cell rfl, b8.cell rfl, trivial⟩ ?_)
    refine xl_op (P := Try.prog) (some 32) rfl rfl (ox_mkSlice (ps := [(0, (.agg #[(.int .i64 (((pre₁.length : Nat) : Int))), (.int .i64 x₁.1), (.int .i64 (x₁.1 + (wd x₁.2)))]))]) (zs := #[(.int .i64 0), (.int .i64 0), (.int .i64 0)]) (cs := #[(.int .i64 (((pre₁.length : Nat) : Int))), (.int .i64 x₁.1), (.int .i64 (x₁.1 + (wd x₁.2)))]) tE_105 rfl (by decide) (by kernel_rfl) (by kernel_rfl) ?_)
    intro w13 e13 z12 b9
    replace b9 : Blk w13 w12.heap.size #[(.int .i64 (((pre₁.length : Nat) : Int))), (.int .i64 x₁.1), (.int .i64 (x₁.1 + (wd x₁.2)))] 130 := b9
    have q7 := (h.o3.keep hcY (fun _k _hk => (h.n3 _k _hk).1))
    have q8 := (((q7.ext e10).ext e11).keep1 e12 (fun k hk => by have _q := ((q7.ext e10).lt) k hk; omega))
    refine xl_op (P := Try.prog) (some 33) rfl rfl (ox_append (n := pre₁.length) (g := w12.heap.size) (o := 0) (m := 1) (xs := ((spC (spL pre₁)))) (news := ([(.int .i64 (((pre₁.length : Nat) : Int))), (.int .i64 x₁.1), (.int .i64 (x₁.1 + (wd x₁.2)))])) rfl tE_105 rfl (by decide) (v := (.slice A3 pre₁.length p3)) rfl rfl (q8.ext e13) rfl b9.all rfl (by omega) (by omega) ?_)
    intro v1 w14 o1 e14 at1 nil1
    have he14 := e14.size
    obtain ⟨A1, c1, rfl, hc1⟩ := o1.shape
    have low1 : ∀ _k, (Value.slice A1 (pre₁.length + 1) c1).ownBlock = some _k → w.heap.size ≤ _k := fun _k _h => by rcases at1 with _e | _e <;> rw [_e] at _h; exact (fun _k _h => (h.n3 _k _h).2) _k _h; exact (by cases _h; omega)
    have q9 := ((q6.keep1 e12 (q6.ne b7 (by decide))).ext e13)
    have q10 := (q9.keep e14 (fun _h => (q8.ext e13).ne_blk q9 (by decide) _ _h rfl))
    refine xl_op (P := Try.prog) none rfl rfl (ox_store (n := 1) (vs := [(.slice A1 (pre₁.length + 1) c1)]) tS_105 rfl (v := (.slice A1 (pre₁.length + 1) c1)) rfl rfl rfl rfl q10 (Nat.le_of_ble_eq_true rfl) ?_)
    intro w15 e15 z13 b10
    replace b10 : Blk w15 w6.heap.size #[(.slice A1 (pre₁.length + 1) c1)] 105 := b10
    refine xl_nil ?_
    refine xc_seq ?_
    refine xc_regionE [4, 5] (fun W_ => Chg (fun _ => False) w15 W_) hmix ?_
    intro w16 e16 z14
    have hS3 : Chg (fun _ => False) w15 w16 := Ext.to e16
    have q11 := (((h.k4.keep hcY h.ny.1.2.2).ext e10).ext e11)
    have q12 := ((q11.keep1 e12 (q11.ne b7 (by decide))).ext e13)
    have q13 := (q12.keep e14 (fun _h => (q8.ext e13).ne_blk q12 (by decide) _ _h rfl))
    refine xd_take 0 (some 34) rfl rfl (by kernel_rfl) (v := (.slice A4 pre₁.length p4)) (.inl ⟨rfl, fun W_ hW_ => ox_load (v := (.slice A4 pre₁.length p4)) tA_42 rfl (((q13.keep1 e15 (q13.ne q10 (by decide))).ext hW_).cell rfl) ⟨rfl, rfl⟩⟩) hS3 ?_
    refine xd_pure 1 (some 35) rfl rfl (by kernel_rfl) (v := (.pointer (some ⟨x₁.2.b, 0, none⟩))) (.inl ⟨rfl, fun W_ hW_ => ox_move (v := (.pointer (some ⟨x₁.2.b, 0, none⟩))) rfl ⟨rfl, rfl⟩⟩) ?_
    have q14 := (hpx.keep hcY (fun b hb h9 => by have := hlow b (hm.2.1 b hb); have := hY _ h9; omega))
    have q15 := (((q14.ext e10).ext e11).keep e12 (fun b hb h9 => by have := hlow b (hm.2.1 b hb); have := h.low; have := h.chg.size; have := hcY.size; omega))
    have q16 := ((q15.ext e13).keep e14 (fun b hb h9 => by have := hlow b (hm.2.1 b hb); have := (fun _k _h => (h.n3 _k _h).2) _ h9; omega))
    have q17 := (q16.keep e15 (fun b hb h9 => by have := hlow b (hm.2.1 b hb); have := h.low; have := h.chg.size; have := hcY.size; omega))
    refine xd_take 2 (some 36) rfl rfl (by kernel_rfl) (v := (.int .i64 x₁.2.id)) (.inl ⟨rfl, fun W_ hW_ => ox_callE (al := [(.pointer (some ⟨x₁.2.b, 0, none⟩))]) pf_40 rfl (ret_mono (number_calls stv x₁.2 _ (q17.ext hW_)) (by rintro _ _ ⟨rfl, rfl⟩; exact ⟨rfl, rfl⟩))⟩) hS3 ?_
    refine xd_one 3 (some 37) rfl rfl (by kernel_rfl) rfl (ox_mkSlice (ps := [(0, (.int .i64 x₁.2.id))]) (zs := #[(.int .i64 0)]) (cs := #[(.int .i64 x₁.2.id)]) tE_42 rfl (by decide) (by kernel_rfl) (by kernel_rfl) ?_)
    intro w17 e17 z15 b11
    replace b11 : Blk w17 w16.heap.size #[(.int .i64 x₁.2.id)] 3 := b11
    have hS4 : Chg (fun _ => False) w15 w17 := Chg.ext hS3 e17
    refine ⟨.inr fun _ => hS4, ?_⟩
    have q18 := (h.o4.keep hcY (fun _k _hk => (h.n4 _k _hk).1))
    have q19 := (((q18.ext e10).ext e11).keep1 e12 (fun k hk => ((q18.ext e10).ext e11).ne_blk b7 (by decide) k hk))
    have q20 := ((q19.ext e13).keep e14 (fun _k _hk => (q19.ext e13).ne_own (q8.ext e13) (by decide) _k _hk))
    have q21 := (q20.keep1 e15 (fun k hk => q20.ne_blk q10 (by decide) k hk))
    refine xd_one 4 (some 38) rfl rfl (by kernel_rfl) rfl (ox_append (n := pre₁.length) (g := w16.heap.size) (o := 0) (m := 1) (xs := (((ids pre₁).map fun i => .int .i64 i))) (news := ([(.int .i64 x₁.2.id)])) rfl tE_42 rfl (by decide) (v := (.slice A4 pre₁.length p4)) rfl rfl ((q21.ext e16).ext e17) rfl b11.all rfl (by omega) (by omega) ?_)
    intro v2 w18 o2 e18 at2 nil2
    have he18 := e18.size
    obtain ⟨A2, c2, rfl, hc2⟩ := o2.shape
    have low2 : ∀ _k, (Value.slice A2 (pre₁.length + 1) c2).ownBlock = some _k → w.heap.size ≤ _k := fun _k _h => by rcases at2 with _e | _e <;> rw [_e] at _h; exact (fun _k _h => (h.n4 _k _h).2) _k _h; exact (by cases _h; omega)
    refine ⟨.inl (by decide), ?_⟩
    have q22 := (((h.k4.keep hcY h.ny.1.2.2).ext e10).ext e11)
    have q23 := ((q22.keep1 e12 (q22.ne b7 (by decide))).ext e13)
    have q24 := (q23.keep e14 (fun _h => (q8.ext e13).ne_blk q23 (by decide) _ _h rfl))
    have q25 := ((q24.keep1 e15 (q24.ne q10 (by decide))).ext e16)
    have q26 := ((q25.ext e17).keep e18 (fun _h => ((q21.ext e16).ext e17).ne_blk (q25.ext e17) (by decide) _ _h rfl))
    refine xd_one 5 none rfl rfl (by kernel_rfl) rfl (ox_store (n := 1) (vs := [(.slice A2 (pre₁.length + 1) c2)]) tS_42 rfl (v := (.slice A2 (pre₁.length + 1) c2)) rfl rfl rfl rfl q26 (Nat.le_of_ble_eq_true rfl) ?_)
    intro w19 e19 z16 b12
    replace b12 : Blk w19 w7.heap.size #[(.slice A2 (pre₁.length + 1) c2)] 42 := b12
    refine ⟨.inl (by decide), ?_⟩
    refine xd_done (by kernel_rfl) ?_ _
    refine xc_seq ?_
    refine xc_seq ?_
    refine xc_regionE [8] (fun W_ => Chg (fun _ => False) w19 W_) hmix ?_
    intro w20 e20 z17
    have hS5 : Chg (fun _ => False) w19 w20 := Ext.to e20
    have q27 := (((h.k1.keep hcY h.ny.1.1.1).ext e10).ext e11)
    have q28 := ((q27.keep1 e12 (q27.ne b7 (by decide))).ext e13)
    have q29 := (q28.keep e14 (fun _h => (q8.ext e13).ne_blk q28 (by decide) _ _h rfl))
    have q30 := ((q29.keep1 e15 (q29.ne q10 (by decide))).ext e16)
    have q31 := ((q30.ext e17).keep e18 (fun _h => ((q21.ext e16).ext e17).ne_blk (q30.ext e17) (by decide) _ _h rfl))
    refine xd_take 0 (some 40) rfl rfl (by kernel_rfl) (v := (.map (some w.heap.size))) (.inl ⟨rfl, fun W_ hW_ => ox_load (v := (.map (some w.heap.size))) tA_144 rfl (((q31.keep1 e19 (q31.ne q26 (by decide))).ext hW_).cell rfl) ⟨rfl, rfl⟩⟩) hS5 ?_
    refine xd_pure 1 (some 41) rfl rfl (by kernel_rfl) (v := (.pointer (some ⟨x₁.2.b, 0, none⟩))) (.inl ⟨rfl, fun W_ hW_ => ox_move (v := (.pointer (some ⟨x₁.2.b, 0, none⟩))) rfl ⟨rfl, rfl⟩⟩) ?_
    have q32 := (hpx.keep hcY (fun b hb h9 => by have := hlow b (hm.2.1 b hb); have := hY _ h9; omega))
    have q33 := (((q32.ext e10).ext e11).keep e12 (fun b hb h9 => by have := hlow b (hm.2.1 b hb); have := h.low; have := h.chg.size; have := hcY.size; omega))
    have q34 := ((q33.ext e13).keep e14 (fun b hb h9 => by have := hlow b (hm.2.1 b hb); have := (fun _k _h => (h.n3 _k _h).2) _ h9; omega))
    have q35 := (q34.keep e15 (fun b hb h9 => by have := hlow b (hm.2.1 b hb); have := h.low; have := h.chg.size; have := hcY.size; omega))
    have q36 := (((q35.ext e16).ext e17).keep e18 (fun b hb h9 => by have := hlow b (hm.2.1 b hb); have := (fun _k _h => (h.n4 _k _h).2) _ h9; omega))
    have q37 := (q36.keep e19 (fun b hb h9 => by have := hlow b (hm.2.1 b hb); have := h.low; have := h.chg.size; have := hcY.size; omega))
    refine xd_take 2 (some 42) rfl rfl (by kernel_rfl) (v := (.int .i64 x₁.2.id)) (.inl ⟨rfl, fun W_ hW_ => ox_callE (al := [(.pointer (some ⟨x₁.2.b, 0, none⟩))]) pf_40 rfl (ret_mono (number_calls stv x₁.2 _ (q37.ext hW_)) (by rintro _ _ ⟨rfl, rfl⟩; exact ⟨rfl, rfl⟩))⟩) hS5 ?_
    have q38 := (((h.e1.keep hcY h.ny.2.1).ext e10).ext e11)
    have q39 := (q38.keep1 e12 (fun _h => q38.ne_blk b7 _h))
    have q40 := ((q39.ext e13).keep e14 (fun _h => by rcases (q8.ext e13).form with ⟨_e, _⟩ | ⟨_g, _c, _cur, _e, _hb, _⟩ <;> rw [_e] at _h <;> simp [Value.ownBlock] at _h; exact (q39.ext e13).ne_blk _hb _h.symm))
    have q41 := (q40.keep1 e15 (fun _h => q40.ne_blk q10 _h))
    have q42 := (((q41.ext e16).ext e17).keep e18 (fun _h => by rcases ((q21.ext e16).ext e17).form with ⟨_e, _⟩ | ⟨_g, _c, _cur, _e, _hb, _⟩ <;> rw [_e] at _h <;> simp [Value.ownBlock] at _h; exact ((q41.ext e16).ext e17).ne_blk _hb _h.symm))
    have q43 := (q42.keep1 e19 (fun _h => q42.ne_blk q26 _h))
    refine xd_take 3 (some 43) rfl rfl (by kernel_rfl) (v := (.tuple #[(.agg #[(.int .i64 s1), (.int .i64 s2), (.int .i64 s3)]), (.bool ((lookM m1 x₁.2.id).isSome))])) (.inl ⟨rfl, fun W_ hW_ => ox_lookup2V (enc := (fun i : Int => .int .i64 i)) (.agg #[(.int .i64 s1), (.int .i64 s2), (.int .i64 s3)]) ((lookM m1 x₁.2.id).isSome) (keyT_int tU_3) tU_144 tZ_130 (q43.ext hW_) rfl rfl hsv rfl ⟨rfl, rfl⟩⟩) hS5 ?_
    refine xd_pure 4 (some 39) rfl rfl (by kernel_rfl) (v := (.tuple #[(.agg #[(.int .i64 s1), (.int .i64 s2), (.int .i64 s3)]), (.bool ((lookM m1 x₁.2.id).isSome))])) (.inl ⟨rfl, fun W_ hW_ => ox_move (v := (.tuple #[(.agg #[(.int .i64 s1), (.int .i64 s2), (.int .i64 s3)]), (.bool ((lookM m1 x₁.2.id).isSome))])) rfl ⟨rfl, rfl⟩⟩) ?_
    refine xd_pure 5 (some 44) rfl rfl (by kernel_rfl) (v := (.agg #[(.int .i64 s1), (.int .i64 s2), (.int .i64 s3)])) (.inl ⟨rfl, fun W_ hW_ => ox_extract (vs := #[(.agg #[(.int .i64 s1), (.int .i64 s2), (.int .i64 s3)]), (.bool ((lookM m1 x₁.2.id).isSome))]) (v := (.agg #[(.int .i64 s1), (.int .i64 s2), (.int .i64 s3)])) rfl rfl ⟨rfl, rfl⟩⟩) ?_
    refine xd_pure 6 (some 45) rfl rfl (by kernel_rfl) (v := (.bool ((lookM m1 x₁.2.id).isSome))) (.inl ⟨rfl, fun W_ hW_ => ox_extract (vs := #[(.agg #[(.int .i64 s1), (.int .i64 s2), (.int .i64 s3)]), (.bool ((lookM m1 x₁.2.id).isSome))]) (v := (.bool ((lookM m1 x₁.2.id).isSome))) rfl rfl ⟨rfl, rfl⟩⟩) ?_
    refine xd_one 7 (some 12) rfl rfl (by kernel_rfl) rfl (ox_alloc tZ_130 ?_)
    intro w21 e21 z18 b13
    replace b13 : Blk w21 w20.heap.size #[(.int .i64 0), (.int .i64 0), (.int .i64 0)] 130 := b13
    have hS6 : Chg (fun _ => False) w19 w21 := Chg.ext hS5 e21
    refine ⟨.inr fun _ => hS6, ?_⟩
    refine xd_one 8 none rfl rfl (by kernel_rfl) rfl (ox_store (n := 3) (vs := [(.int .i64 s1), (.int .i64 s2), (.int .i64 s3)]) tS_130 rfl (v := (.agg #[(.int .i64 s1), (.int .i64 s2), (.int .i64 s3)])) rfl rfl rfl rfl b13 (Nat.le_of_ble_eq_true rfl) ?_)
    intro w22 e22 z19 b14
    replace b14 : Blk w22 w20.heap.size #[(.int .i64 s1), (.int .i64 s2), (.int .i64 s3)] 130 := blk_full b14 rfl
    refine ⟨.inl (by decide), ?_⟩
    refine xd_pure 9 (some 13) rfl rfl (by kernel_rfl) (v := (.bool ((lookM m1 x₁.2.id).isSome))) (.inl ⟨rfl, fun W_ hW_ => ox_assign (v := (.bool ((lookM m1 x₁.2.id).isSome))) rfl ⟨rfl, rfl⟩⟩) ?_
    refine xd_done (by kernel_rfl) ?_ _
    refine xc_seq ?_
    refine xc_region ?_
    refine xl_op (P := Try.prog) (some 46) rfl rfl (ox_move (v := (.bool ((lookM m1 x₁.2.id).isSome))) rfl ?_)
    refine xl_nil ?_
    refine xc_cond (b := ((lookM m1 x₁.2.id).isSome)) rfl (fun h1 => ?_) (fun h1 => ?_)
    · skip
      have h1' := h1
      try simp only [Bool.or_eq_true, Bool.and_eq_true, decide_eq_true_eq, Bool.or_eq_false_iff, Bool.and_eq_false_iff, decide_eq_false_iff_not, Bool.not_eq_true', Bool.not_eq_false'] at h1'
      refine xc_seq ?_
      refine xc_regionE [3] (fun W_ => Chg (fun _ => False) w22 W_) hmix ?_
      intro w23 e23 z20
      have hS7 : Chg (fun _ => False) w22 w23 := Ext.to e23
      have q44 := (((h.k1.keep hcY h.ny.1.1.1).ext e10).ext e11)
      have q45 := ((q44.keep1 e12 (q44.ne b7 (by decide))).ext e13)
      have q46 := (q45.keep e14 (fun _h => (q8.ext e13).ne_blk q45 (by decide) _ _h rfl))
      have q47 := ((q46.keep1 e15 (q46.ne q10 (by decide))).ext e16)
      have q48 := ((q47.ext e17).keep e18 (fun _h => ((q21.ext e16).ext e17).ne_blk (q47.ext e17) (by decide) _ _h rfl))
      have q49 := ((q48.keep1 e19 (q48.ne q26 (by decide))).ext e20)
      have q50 := ((q49.ext e21).keep1 e22 ((q49.ext e21).ne b13 (by decide)))
      refine xd_take 0 (some 47) rfl rfl (by kernel_rfl) (v := (.map (some w.heap.size))) (.inl ⟨rfl, fun W_ hW_ => ox_load (v := (.map (some w.heap.size))) tA_144 rfl ((q50.ext hW_).cell rfl) ⟨rfl, rfl⟩⟩) hS7 ?_
      refine xd_pure 1 (some 48) rfl rfl (by kernel_rfl) (v := (.pointer (some ⟨x₁.2.b, 0, none⟩))) (.inl ⟨rfl, fun W_ hW_ => ox_move (v := (.pointer (some ⟨x₁.2.b, 0, none⟩))) rfl ⟨rfl, rfl⟩⟩) ?_
      have q51 := (hpx.keep hcY (fun b hb h9 => by have := hlow b (hm.2.1 b hb); have := hY _ h9; omega))
      have q52 := (((q51.ext e10).ext e11).keep e12 (fun b hb h9 => by have := hlow b (hm.2.1 b hb); have := h.low; have := h.chg.size; have := hcY.size; omega))
      have q53 := ((q52.ext e13).keep e14 (fun b hb h9 => by have := hlow b (hm.2.1 b hb); have := (fun _k _h => (h.n3 _k _h).2) _ h9; omega))
      have q54 := (q53.keep e15 (fun b hb h9 => by have := hlow b (hm.2.1 b hb); have := h.low; have := h.chg.size; have := hcY.size; omega))
      have q55 := (((q54.ext e16).ext e17).keep e18 (fun b hb h9 => by have := hlow b (hm.2.1 b hb); have := (fun _k _h => (h.n4 _k _h).2) _ h9; omega))
      have q56 := (q55.keep e19 (fun b hb h9 => by have := hlow b (hm.2.1 b hb); have := h.low; have := h.chg.size; have := hcY.size; omega))
      have q57 := (((q56.ext e20).ext e21).keep e22 (fun b hb h9 => by have := hlow b (hm.2.1 b hb); have := h.low; have := h.chg.size; have := hcY.size; omega))
      refine xd_take 2 (some 49) rfl rfl (by kernel_rfl) (v := (.int .i64 x₁.2.id)) (.inl ⟨rfl, fun W_ hW_ => ox_callE (al := [(.pointer (some ⟨x₁.2.b, 0, none⟩))]) pf_40 rfl (ret_mono (number_calls stv x₁.2 _ (q57.ext hW_)) (by rintro _ _ ⟨rfl, rfl⟩; exact ⟨rfl, rfl⟩))⟩) hS7 ?_
      have q58 := (((h.e1.keep hcY h.ny.2.1).ext e10).ext e11)
      have q59 := (q58.keep1 e12 (fun _h => q58.ne_blk b7 _h))
      have q60 := ((q59.ext e13).keep e14 (fun _h => by rcases (q8.ext e13).form with ⟨_e, _⟩ | ⟨_g, _c, _cur, _e, _hb, _⟩ <;> rw [_e] at _h <;> simp [Value.ownBlock] at _h; exact (q59.ext e13).ne_blk _hb _h.symm))
      have q61 := (q60.keep1 e15 (fun _h => q60.ne_blk q10 _h))
      have q62 := (((q61.ext e16).ext e17).keep e18 (fun _h => by rcases ((q21.ext e16).ext e17).form with ⟨_e, _⟩ | ⟨_g, _c, _cur, _e, _hb, _⟩ <;> rw [_e] at _h <;> simp [Value.ownBlock] at _h; exact ((q61.ext e16).ext e17).ne_blk _hb _h.symm))
      have q63 := (q62.keep1 e19 (fun _h => q62.ne_blk q26 _h))
      have q64 := (((q63.ext e20).ext e21).keep1 e22 (fun _h => ((q63.ext e20).ext e21).ne_blk b13 _h))
      refine xd_one 3 none rfl rfl (by kernel_rfl) rfl (ox_delete (enc := (fun i : Int => .int .i64 i)) (k := x₁.2.id) rfl (keyT_int tU_3) tU_144 (q64.ext e23) rfl rfl ?_)
      intro w24 e24 z21 m3
      refine ⟨.inl (by decide), ?_⟩
      refine xd_done (by kernel_rfl) ?_ _
      refine xc_regionE [4] (fun W_ => Chg (fun _ => False) w24 W_) hmix ?_
      intro w25 e25 z22
      have hS8 : Chg (fun _ => False) w24 w25 := Ext.to e25
      have q65 := (((h.k2.keep hcY h.ny.1.1.2).ext e10).ext e11)
      have q66 := ((q65.keep1 e12 (q65.ne b7 (by decide))).ext e13)
      have q67 := (q66.keep e14 (fun _h => (q8.ext e13).ne_blk q66 (by decide) _ _h rfl))
      have q68 := ((q67.keep1 e15 (q67.ne q10 (by decide))).ext e16)
      have q69 := ((q68.ext e17).keep e18 (fun _h => ((q21.ext e16).ext e17).ne_blk (q68.ext e17) (by decide) _ _h rfl))
      have q70 := ((q69.keep1 e19 (q69.ne q26 (by decide))).ext e20)
      have q71 := ((q70.ext e21).keep1 e22 ((q70.ext e21).ne b13 (by decide)))
      have q72 := ((q71.ext e23).keep1 e24 (fun _h => (q64.ext e23).ne_blk (q71.ext e23) _h.symm))
      refine xd_take 0 (some 50) rfl rfl (by kernel_rfl) (v := (.map (some w3.heap.size))) (.inl ⟨rfl, fun W_ hW_ => ox_load (v := (.map (some w3.heap.size))) tA_155 rfl ((q72.ext hW_).cell rfl) ⟨rfl, rfl⟩⟩) hS8 ?_
      refine xd_pure 1 (some 51) rfl rfl (by kernel_rfl) (v := (.pointer (some ⟨x₁.2.b, 0, none⟩))) (.inl ⟨rfl, fun W_ hW_ => ox_move (v := (.pointer (some ⟨x₁.2.b, 0, none⟩))) rfl ⟨rfl, rfl⟩⟩) ?_
      have q73 := (hpx.keep hcY (fun b hb h9 => by have := hlow b (hm.2.1 b hb); have := hY _ h9; omega))
      have q74 := (((q73.ext e10).ext e11).keep e12 (fun b hb h9 => by have := hlow b (hm.2.1 b hb); have := h.low; have := h.chg.size; have := hcY.size; omega))
      have q75 := ((q74.ext e13).keep e14 (fun b hb h9 => by have := hlow b (hm.2.1 b hb); have := (fun _k _h => (h.n3 _k _h).2) _ h9; omega))
      have q76 := (q75.keep e15 (fun b hb h9 => by have := hlow b (hm.2.1 b hb); have := h.low; have := h.chg.size; have := hcY.size; omega))
      have q77 := (((q76.ext e16).ext e17).keep e18 (fun b hb h9 => by have := hlow b (hm.2.1 b hb); have := (fun _k _h => (h.n4 _k _h).2) _ h9; omega))
      have q78 := (q77.keep e19 (fun b hb h9 => by have := hlow b (hm.2.1 b hb); have := h.low; have := h.chg.size; have := hcY.size; omega))
      have q79 := (((q78.ext e20).ext e21).keep e22 (fun b hb h9 => by have := hlow b (hm.2.1 b hb); have := h.low; have := h.chg.size; have := hcY.size; omega))
      have q80 := ((q79.ext e23).keep e24 (fun b hb h9 => by have := hlow b (hm.2.1 b hb); have := h.low; have := h.chg.size; have := hcY.size; omega))
      refine xd_take 2 (some 52) rfl rfl (by kernel_rfl) (v := (.int .i64 x₁.2.id)) (.inl ⟨rfl, fun W_ hW_ => ox_callE (al := [(.pointer (some ⟨x₁.2.b, 0, none⟩))]) pf_40 rfl (ret_mono (number_calls stv x₁.2 _ (q80.ext hW_)) (by rintro _ _ ⟨rfl, rfl⟩; exact ⟨rfl, rfl⟩))⟩) hS8 ?_
      refine xd_pure 3 (some 53) rfl rfl (by kernel_rfl) (v := (.agg #[])) (.inl ⟨rfl, fun W_ hW_ => ox_mkStruct (ps := []) (cs := #[]) tZ_134 tP_134 rfl (by kernel_rfl) ⟨rfl, rfl⟩⟩) ?_
      have q81 := (((h.e2.keep hcY h.ny.2.2).ext e10).ext e11)
      have q82 := (q81.keep1 e12 (fun _h => q81.ne_blk b7 _h))
      have q83 := ((q82.ext e13).keep e14 (fun _h => by rcases (q8.ext e13).form with ⟨_e, _⟩ | ⟨_g, _c, _cur, _e, _hb, _⟩ <;> rw [_e] at _h <;> simp [Value.ownBlock] at _h; exact (q82.ext e13).ne_blk _hb _h.symm))
      have q84 := (q83.keep1 e15 (fun _h => q83.ne_blk q10 _h))
      have q85 := (((q84.ext e16).ext e17).keep e18 (fun _h => by rcases ((q21.ext e16).ext e17).form with ⟨_e, _⟩ | ⟨_g, _c, _cur, _e, _hb, _⟩ <;> rw [_e] at _h <;> simp [Value.ownBlock] at _h; exact ((q84.ext e16).ext e17).ne_blk _hb _h.symm))
      have q86 := (q85.keep1 e19 (fun _h => q85.ne_blk q26 _h))
      have q87 := (((q86.ext e20).ext e21).keep1 e22 (fun _h => ((q86.ext e20).ext e21).ne_blk b13 _h))
      have q88 := ((q87.ext e23).keep1 e24 (by have _q := h.e2.lt; omega))
      refine xd_one 4 none rfl rfl (by kernel_rfl) rfl (ox_mapUpdate (enc := (fun i : Int => .int .i64 i)) (k := x₁.2.id) (v := (.agg #[])) (keyT_int tU_3) tU_155 (q88.ext e25) rfl rfl rfl ?_)
      intro w26 e26 z23 m4
      refine ⟨.inl (by decide), ?_⟩
      refine xd_done (by kernel_rfl) ?_ _
      refine xc_seq ?_
      refine xc_regionE [8] (fun W_ => Chg (fun _ => False) w26 W_) hmix ?_
      intro w27 e27 z24
      have hS9 : Chg (fun _ => False) w26 w27 := Ext.to e27
      have q89 := (((h.k2.keep hcY h.ny.1.1.2).ext e10).ext e11)
      have q90 := ((q89.keep1 e12 (q89.ne b7 (by decide))).ext e13)
      have q91 := (q90.keep e14 (fun _h => (q8.ext e13).ne_blk q90 (by decide) _ _h rfl))
      have q92 := ((q91.keep1 e15 (q91.ne q10 (by decide))).ext e16)
      have q93 := ((q92.ext e17).keep e18 (fun _h => ((q21.ext e16).ext e17).ne_blk (q92.ext e17) (by decide) _ _h rfl))
      have q94 := ((q93.keep1 e19 (q93.ne q26 (by decide))).ext e20)
      have q95 := ((q94.ext e21).keep1 e22 ((q94.ext e21).ne b13 (by decide)))
      have q96 := ((q95.ext e23).keep1 e24 (fun _h => (q64.ext e23).ne_blk (q95.ext e23) _h.symm))
      have q97 := ((q96.ext e25).keep1 e26 (fun _h => (q88.ext e25).ne_blk (q96.ext e25) _h.symm))
      refine xd_take 0 (some 55) rfl rfl (by kernel_rfl) (v := (.map (some w3.heap.size))) (.inl ⟨rfl, fun W_ hW_ => ox_load (v := (.map (some w3.heap.size))) tA_155 rfl ((q97.ext hW_).cell rfl) ⟨rfl, rfl⟩⟩) hS9 ?_
      refine xd_pure 1 (some 56) rfl rfl (by kernel_rfl) (v := (.pointer (some ⟨x₁.2.b, 0, none⟩))) (.inl ⟨rfl, fun W_ hW_ => ox_move (v := (.pointer (some ⟨x₁.2.b, 0, none⟩))) rfl ⟨rfl, rfl⟩⟩) ?_
      have q98 := (hpx.keep hcY (fun b hb h9 => by have := hlow b (hm.2.1 b hb); have := hY _ h9; omega))
      have q99 := (((q98.ext e10).ext e11).keep e12 (fun b hb h9 => by have := hlow b (hm.2.1 b hb); have := h.low; have := h.chg.size; have := hcY.size; omega))
      have q100 := ((q99.ext e13).keep e14 (fun b hb h9 => by have := hlow b (hm.2.1 b hb); have := (fun _k _h => (h.n3 _k _h).2) _ h9; omega))
      have q101 := (q100.keep e15 (fun b hb h9 => by have := hlow b (hm.2.1 b hb); have := h.low; have := h.chg.size; have := hcY.size; omega))
      have q102 := (((q101.ext e16).ext e17).keep e18 (fun b hb h9 => by have := hlow b (hm.2.1 b hb); have := (fun _k _h => (h.n4 _k _h).2) _ h9; omega))
      have q103 := (q102.keep e19 (fun b hb h9 => by have := hlow b (hm.2.1 b hb); have := h.low; have := h.chg.size; have := hcY.size; omega))
      have q104 := (((q103.ext e20).ext e21).keep e22 (fun b hb h9 => by have := hlow b (hm.2.1 b hb); have := h.low; have := h.chg.size; have := hcY.size; omega))
      have q105 := ((q104.ext e23).keep e24 (fun b hb h9 => by have := hlow b (hm.2.1 b hb); have := h.low; have := h.chg.size; have := hcY.size; omega))
      have q106 := ((q105.ext e25).keep e26 (fun b hb h9 => by have := hlow b (hm.2.1 b hb); have := h.low; have := h.chg.size; have := hcY.size; omega))
      refine xd_take 2 (some 57) rfl rfl (by kernel_rfl) (v := (.int .i64 x₁.2.id)) (.inl ⟨rfl, fun W_ hW_ => ox_callE (al := [(.pointer (some ⟨x₁.2.b, 0, none⟩))]) pf_40 rfl (ret_mono (number_calls stv x₁.2 _ (q106.ext hW_)) (by rintro _ _ ⟨rfl, rfl⟩; exact ⟨rfl, rfl⟩))⟩) hS9 ?_
      refine xd_take 3 (some 58) rfl rfl (by kernel_rfl) (v := (.tuple #[(.agg #[]), (.bool true)])) (.inl ⟨rfl, fun W_ hW_ => ox_lookup2V (enc := (fun i : Int => .int .i64 i)) (.agg #[]) true (keyT_int tU_3) tU_155 tZ_134 (m4.ext hW_) rfl rfl (by rw [lookM_setM, if_pos rfl]; rfl) (by rw [lookM_setM, if_pos rfl]; rfl) ⟨rfl, rfl⟩⟩) hS9 ?_
      refine xd_pure 4 (some 54) rfl rfl (by kernel_rfl) (v := (.tuple #[(.agg #[]), (.bool true)])) (.inl ⟨rfl, fun W_ hW_ => ox_move (v := (.tuple #[(.agg #[]), (.bool true)])) rfl ⟨rfl, rfl⟩⟩) ?_
      refine xd_pure 5 (some 59) rfl rfl (by kernel_rfl) (v := (.agg #[])) (.inl ⟨rfl, fun W_ hW_ => ox_extract (vs := #[(.agg #[]), (.bool true)]) (v := (.agg #[])) rfl rfl ⟨rfl, rfl⟩⟩) ?_
      refine xd_pure 6 (some 60) rfl rfl (by kernel_rfl) (v := (.bool true)) (.inl ⟨rfl, fun W_ hW_ => ox_extract (vs := #[(.agg #[]), (.bool true)]) (v := (.bool true)) rfl rfl ⟨rfl, rfl⟩⟩) ?_
      refine xd_one 7 (some 14) rfl rfl (by kernel_rfl) rfl (ox_alloc tZ_134 ?_)
      intro w28 e28 z25 b15
      replace b15 : Blk w28 w27.heap.size #[] 134 := b15
      have hS10 : Chg (fun _ => False) w26 w28 := Chg.ext hS9 e28
      refine ⟨.inr fun _ => hS10, ?_⟩
      refine xd_one 8 none rfl rfl (by kernel_rfl) rfl (ox_store (n := 0) (vs := []) tS_134 rfl (v := (.agg #[])) rfl rfl rfl rfl b15 (Nat.le_of_ble_eq_true rfl) ?_)
      intro w29 e29 z26 b16
      replace b16 : Blk w29 w27.heap.size #[] 134 := b16
      refine ⟨.inl (by decide), ?_⟩
      refine xd_pure 9 (some 15) rfl rfl (by kernel_rfl) (v := (.bool true)) (.inl ⟨rfl, fun W_ hW_ => ox_assign (v := (.bool true)) rfl ⟨rfl, rfl⟩⟩) ?_
      refine xd_done (by kernel_rfl) ?_ _
      refine xc_seq ?_
      refine xc_region ?_
      refine xl_op (P := Try.prog) (some 61) rfl rfl (ox_move (v := (.bool true)) rfl ?_)
      refine xl_op (P := Try.prog) (some 62) rfl rfl (ox_not (b := true) rfl ?_)
      refine xl_nil ?_
      refine xc_cond_f rfl ?_
      refine xc_skip ?_
      have hs2' := hcY.size
      have hs11 := e10.size
      have hs12 := e11.size
      have hs13 := e12.size
      have hs14 := e13.size
      have hs15 := e14.size
      have hs16 := e15.size
      have hs17 := e16.size
      have hs18 := e17.size
      have hs19 := e18.size
      have hs20 := e19.size
      have hs21 := e20.size
      have hs22 := e21.size
      have hs23 := e22.size
      have hs24 := e23.size
      have hs25 := e24.size
      have hs26 := e25.size
      have hs27 := e26.size
      have hs28 := e27.size
      have hs29 := e28.size
      have hs30 := e29.size
      have hM := (Chg.chg1 (Chg.ext (Chg.ext (Chg.chg1 (Chg.ext (Chg.chg1 (Chg.ext (Chg.chg1 (Chg.ext (Chg.ext (Chg.chg1 (Chg.trans (Chg.ext (Chg.ext (Chg.chg1 (Chg.trans (Chg.ext (Chg.chg1 (Chg.ext (Chg.ext (Chg.refl (fun b => W.heap.size ≤ b ∨ (b = w1.heap.size ∨ b = w4.heap.size ∨ b = w6.heap.size ∨ b = w7.heap.size ∨ b = w.heap.size ∨ b = w3.heap.size) ∨ (Value.slice A3 pre₁.length p3).ownBlock = some b ∨ (Value.slice A4 pre₁.length p4).ownBlock = some b) W2) e10) e11) e12 (.inl (by first | (right; left; simp; done) | (left; omega)))) e13) e14 (fun b hb hl => by first | exact .inr (.inr (.inl hb)) | exact .inr (.inr (.inr hb)))) e15 (.inl (by first | (right; left; simp; done) | (left; omega)))) e16) e17) e18 (fun b hb hl => by first | exact .inr (.inr (.inl hb)) | exact .inr (.inr (.inr hb)))) e19 (.inl (by first | (right; left; simp; done) | (left; omega)))) e20) e21) e22 (.inl (by first | (right; left; simp; done) | (left; omega)))) e23) e24 (.inl (by first | (right; left; simp; done) | (left; omega)))) e25) e26 (.inl (by first | (right; left; simp; done) | (left; omega)))) e27) e28) e29 (.inl (by first | (right; left; simp; done) | (left; omega))))
      have q107 := (((h.k1.keep hcY h.ny.1.1.1).ext e10).ext e11)
      have q108 := (q107.keep1 e12 (q107.ne b7 (by decide)))
      have q109 := ((q108.ext e13).keep e14 (fun _h => (q8.ext e13).ne_blk (q108.ext e13) (by decide) _ _h rfl))
      have q110 := (q109.keep1 e15 (q109.ne q10 (by decide)))
      have q111 := (((q110.ext e16).ext e17).keep e18 (fun _h => ((q21.ext e16).ext e17).ne_blk ((q110.ext e16).ext e17) (by decide) _ _h rfl))
      have q112 := (q111.keep1 e19 (q111.ne q26 (by decide)))
      have q113 := (((q112.ext e20).ext e21).keep1 e22 (((q112.ext e20).ext e21).ne b13 (by decide)))
      have q114 := ((q113.ext e23).keep1 e24 (fun _h => (q64.ext e23).ne_blk (q113.ext e23) _h.symm))
      have q115 := ((q114.ext e25).keep1 e26 (fun _h => (q88.ext e25).ne_blk (q114.ext e25) _h.symm))
      have q116 := (((q115.ext e27).ext e28).keep1 e29 (((q115.ext e27).ext e28).ne b15 (by decide)))
      have hq0 := q116
      have q117 := (((h.k2.keep hcY h.ny.1.1.2).ext e10).ext e11)
      have q118 := (q117.keep1 e12 (q117.ne b7 (by decide)))
      have q119 := ((q118.ext e13).keep e14 (fun _h => (q8.ext e13).ne_blk (q118.ext e13) (by decide) _ _h rfl))
      have q120 := (q119.keep1 e15 (q119.ne q10 (by decide)))
      have q121 := (((q120.ext e16).ext e17).keep e18 (fun _h => ((q21.ext e16).ext e17).ne_blk ((q120.ext e16).ext e17) (by decide) _ _h rfl))
      have q122 := (q121.keep1 e19 (q121.ne q26 (by decide)))
      have q123 := (((q122.ext e20).ext e21).keep1 e22 (((q122.ext e20).ext e21).ne b13 (by decide)))
      have q124 := ((q123.ext e23).keep1 e24 (fun _h => (q64.ext e23).ne_blk (q123.ext e23) _h.symm))
      have q125 := ((q124.ext e25).keep1 e26 (fun _h => (q88.ext e25).ne_blk (q124.ext e25) _h.symm))
      have q126 := (((q125.ext e27).ext e28).keep1 e29 (((q125.ext e27).ext e28).ne b15 (by decide)))
      have hq1 := q126
      have q127 := (((b10.ext e16).ext e17).keep e18 (fun _h => ((q21.ext e16).ext e17).ne_blk ((b10.ext e16).ext e17) (by decide) _ _h rfl))
      have q128 := (q127.keep1 e19 (q127.ne q26 (by decide)))
      have q129 := (((q128.ext e20).ext e21).keep1 e22 (((q128.ext e20).ext e21).ne b13 (by decide)))
      have q130 := ((q129.ext e23).keep1 e24 (fun _h => (q64.ext e23).ne_blk (q129.ext e23) _h.symm))
      have q131 := ((q130.ext e25).keep1 e26 (fun _h => (q88.ext e25).ne_blk (q130.ext e25) _h.symm))
      have q132 := (((q131.ext e27).ext e28).keep1 e29 (((q131.ext e27).ext e28).ne b15 (by decide)))
      have hq2 := q132
      have q133 := (((b12.ext e20).ext e21).keep1 e22 (((b12.ext e20).ext e21).ne b13 (by decide)))
      have q134 := ((q133.ext e23).keep1 e24 (fun _h => (q64.ext e23).ne_blk (q133.ext e23) _h.symm))
      have q135 := ((q134.ext e25).keep1 e26 (fun _h => (q88.ext e25).ne_blk (q134.ext e25) _h.symm))
      have q136 := (((q135.ext e27).ext e28).keep1 e29 (((q135.ext e27).ext e28).ne b15 (by decide)))
      have hq3 := q136
      have q137 := ((m3.ext e25).keep1 e26 (by have _q := m3.lt; omega))
      have q138 := (((q137.ext e27).ext e28).keep1 e29 (fun _h => ((q137.ext e27).ext e28).ne_blk b15 _h))
      have hq4 := q138
      have q139 := (((m4.ext e27).ext e28).keep1 e29 (fun _h => ((m4.ext e27).ext e28).ne_blk b15 _h))
      have hq5 := q139
      have q140 := (o1.keep1 e15 (fun k hk => o1.ne_blk q10 (by decide) k hk))
      have q141 := (((q140.ext e16).ext e17).keep e18 (fun _k _hk => ((q140.ext e16).ext e17).ne_own ((q21.ext e16).ext e17) (by decide) _k _hk))
      have q142 := (q141.keep1 e19 (fun k hk => q141.ne_blk q26 (by decide) k hk))
      have q143 := (((q142.ext e20).ext e21).keep1 e22 (fun k hk => by have _q := ((q142.ext e20).lt) k hk; omega))
      have q144 := ((q143.ext e23).keep1 e24 (fun k hk => (q143.ext e23).ne_map (q64.ext e23) k hk))
      have q145 := ((q144.ext e25).keep1 e26 (fun k hk => (q144.ext e25).ne_map (q88.ext e25) k hk))
      have q146 := (((q145.ext e27).ext e28).keep1 e29 (fun k hk => ((q145.ext e27).ext e28).ne_blk b15 (by decide) k hk))
      have hq6 := q146
      have q147 := (o2.keep1 e19 (fun k hk => o2.ne_blk q26 (by decide) k hk))
      have q148 := (((q147.ext e20).ext e21).keep1 e22 (fun k hk => ((q147.ext e20).ext e21).ne_blk b13 (by decide) k hk))
      have q149 := ((q148.ext e23).keep1 e24 (fun k hk => (q148.ext e23).ne_map (q64.ext e23) k hk))
      have q150 := ((q149.ext e25).keep1 e26 (fun k hk => (q149.ext e25).ne_map (q88.ext e25) k hk))
      have q151 := (((q150.ext e27).ext e28).keep1 e29 (fun k hk => ((q150.ext e27).ext e28).ne_blk b15 (by decide) k hk))
      have hq7 := q151
      have hnew3 : ∀ k, (Value.slice A1 (pre₁.length + 1) c1).ownBlock = some k → ¬ Y k ∧ w.heap.size ≤ k := by
        intro k hk; rcases at1 with h9 | h9
        · rw [h9] at hk; exact h.n3 k hk
        · rw [h9] at hk; cases hk; exact ⟨fun hy => by have := (hY _ hy).2; omega, by have := h.chg.size; omega⟩
      have hnew4 : ∀ k, (Value.slice A2 (pre₁.length + 1) c2).ownBlock = some k → ¬ Y k ∧ w.heap.size ≤ k := by
        intro k hk; rcases at2 with h9 | h9
        · rw [h9] at hk; exact h.n4 k hk
        · rw [h9] at hk; cases hk; exact ⟨fun hy => by have := (hY _ hy).2; omega, by have := h.chg.size; omega⟩
      have hMM : Mine w.heap.size Y W2 w29 := hM.mono fun b hl hb => by
        have hlw := h.low; have hny := h.ny
        rcases hb with hb | (hb | hb | hb | hb | hb | hb) | hb | hb
        · exact ⟨fun hy => by have := (hY _ hy).2; omega, by have := h.chg.size; omega⟩
        · subst hb; exact ⟨hny.1.1.1, hlw.1.1.1⟩
        · subst hb; exact ⟨hny.1.1.2, hlw.1.1.2⟩
        · subst hb; exact ⟨hny.1.2.1, hlw.1.2.1⟩
        · subst hb; exact ⟨hny.1.2.2, hlw.1.2.2⟩
        · subst hb; exact ⟨hny.2.1, hlw.2.1⟩
        · subst hb; exact ⟨hny.2.2, hlw.2.2⟩
        · exact h.n3 b hb
        · exact h.n4 b hb
      refine ⟨hMM, delM m1 x₁.2.id, setM m2 x₁.2.id (.agg #[]), A1, A2, c1, c2, ?_⟩
      have hln : (pre₁ ++ [x₁]).length = pre₁.length + 1 := by simp
      refine ⟨hq0, hq1, by rw [hln]; exact hq2, by rw [hln]; exact hq3, hq4, hq5, h.m.again (by obtain ⟨_, _, _, _, hn⟩ := h.e1; exact hn) h1, by rw [hln, spL_snoc, spC_snoc]; exact hq6, by rw [hln, ids_snoc, List.map_append]; exact hq7, h.ny, by rw [hln]; exact hnew3, by rw [hln]; exact hnew4, h.low, ?_⟩
      exact Chg.trans (Chg.trans h.chg hcY fun b hb _ => (hY b hb).1) hMM fun b hb _ => hb.2
    · skip
      have h1' := h1
      try simp only [Bool.or_eq_true, Bool.and_eq_true, decide_eq_true_eq, Bool.or_eq_false_iff, Bool.and_eq_false_iff, decide_eq_false_iff_not, Bool.not_eq_true', Bool.not_eq_false'] at h1'
      refine xc_skip ?_
      refine xc_seq ?_
      refine xc_regionE [8] (fun W_ => Chg (fun _ => False) w22 W_) hmix ?_
      intro w30 e30 z27
      have hS11 : Chg (fun _ => False) w22 w30 := Ext.to e30
      have q152 := (((h.k2.keep hcY h.ny.1.1.2).ext e10).ext e11)
      have q153 := (q152.keep1 e12 (q152.ne b7 (by decide)))
      have q154 := ((q153.ext e13).keep e14 (fun _h => (q8.ext e13).ne_blk (q153.ext e13) (by decide) _ _h rfl))
      have q155 := (q154.keep1 e15 (q154.ne q10 (by decide)))
      have q156 := (((q155.ext e16).ext e17).keep e18 (fun _h => ((q21.ext e16).ext e17).ne_blk ((q155.ext e16).ext e17) (by decide) _ _h rfl))
      have q157 := (q156.keep1 e19 (q156.ne q26 (by decide)))
      have q158 := (((q157.ext e20).ext e21).keep1 e22 (((q157.ext e20).ext e21).ne b13 (by decide)))
      refine xd_take 0 (some 55) rfl rfl (by kernel_rfl) (v := (.map (some w3.heap.size))) (.inl ⟨rfl, fun W_ hW_ => ox_load (v := (.map (some w3.heap.size))) tA_155 rfl ((q158.ext hW_).cell rfl) ⟨rfl, rfl⟩⟩) hS11 ?_
      refine xd_pure 1 (some 56) rfl rfl (by kernel_rfl) (v := (.pointer (some ⟨x₁.2.b, 0, none⟩))) (.inl ⟨rfl, fun W_ hW_ => ox_move (v := (.pointer (some ⟨x₁.2.b, 0, none⟩))) rfl ⟨rfl, rfl⟩⟩) ?_
      have q159 := (hpx.keep hcY (fun b hb h9 => by have := hlow b (hm.2.1 b hb); have := hY _ h9; omega))
      have q160 := (((q159.ext e10).ext e11).keep e12 (fun b hb h9 => by have := hlow b (hm.2.1 b hb); have := h.low; have := h.chg.size; have := hcY.size; omega))
      have q161 := ((q160.ext e13).keep e14 (fun b hb h9 => by have := hlow b (hm.2.1 b hb); have := (fun _k _h => (h.n3 _k _h).2) _ h9; omega))
      have q162 := (q161.keep e15 (fun b hb h9 => by have := hlow b (hm.2.1 b hb); have := h.low; have := h.chg.size; have := hcY.size; omega))
      have q163 := (((q162.ext e16).ext e17).keep e18 (fun b hb h9 => by have := hlow b (hm.2.1 b hb); have := (fun _k _h => (h.n4 _k _h).2) _ h9; omega))
      have q164 := (q163.keep e19 (fun b hb h9 => by have := hlow b (hm.2.1 b hb); have := h.low; have := h.chg.size; have := hcY.size; omega))
      have q165 := (((q164.ext e20).ext e21).keep e22 (fun b hb h9 => by have := hlow b (hm.2.1 b hb); have := h.low; have := h.chg.size; have := hcY.size; omega))
      refine xd_take 2 (some 57) rfl rfl (by kernel_rfl) (v := (.int .i64 x₁.2.id)) (.inl ⟨rfl, fun W_ hW_ => ox_callE (al := [(.pointer (some ⟨x₁.2.b, 0, none⟩))]) pf_40 rfl (ret_mono (number_calls stv x₁.2 _ (q165.ext hW_)) (by rintro _ _ ⟨rfl, rfl⟩; exact ⟨rfl, rfl⟩))⟩) hS11 ?_
      have q166 := (((h.e2.keep hcY h.ny.2.2).ext e10).ext e11)
      have q167 := (q166.keep1 e12 (fun _h => q166.ne_blk b7 _h))
      have q168 := ((q167.ext e13).keep e14 (fun _h => by rcases (q8.ext e13).form with ⟨_e, _⟩ | ⟨_g, _c, _cur, _e, _hb, _⟩ <;> rw [_e] at _h <;> simp [Value.ownBlock] at _h; exact (q167.ext e13).ne_blk _hb _h.symm))
      have q169 := (q168.keep1 e15 (fun _h => q168.ne_blk q10 _h))
      have q170 := (((q169.ext e16).ext e17).keep e18 (fun _h => by rcases ((q21.ext e16).ext e17).form with ⟨_e, _⟩ | ⟨_g, _c, _cur, _e, _hb, _⟩ <;> rw [_e] at _h <;> simp [Value.ownBlock] at _h; exact ((q169.ext e16).ext e17).ne_blk _hb _h.symm))
      have q171 := (q170.keep1 e19 (fun _h => q170.ne_blk q26 _h))
      have q172 := (((q171.ext e20).ext e21).keep1 e22 (fun _h => ((q171.ext e20).ext e21).ne_blk b13 _h))
      refine xd_take 3 (some 58) rfl rfl (by kernel_rfl) (v := (.tuple #[(.agg #[]), (.bool ((lookM m2 x₁.2.id).isSome))])) (.inl ⟨rfl, fun W_ hW_ => ox_lookup2V (enc := (fun i : Int => .int .i64 i)) (.agg #[]) ((lookM m2 x₁.2.id).isSome) (keyT_int tU_3) tU_155 tZ_134 (q172.ext hW_) rfl rfl (h.m.unit x₁.2.id) rfl ⟨rfl, rfl⟩⟩) hS11 ?_
      refine xd_pure 4 (some 54) rfl rfl (by kernel_rfl) (v := (.tuple #[(.agg #[]), (.bool ((lookM m2 x₁.2.id).isSome))])) (.inl ⟨rfl, fun W_ hW_ => ox_move (v := (.tuple #[(.agg #[]), (.bool ((lookM m2 x₁.2.id).isSome))])) rfl ⟨rfl, rfl⟩⟩) ?_
      refine xd_pure 5 (some 59) rfl rfl (by kernel_rfl) (v := (.agg #[])) (.inl ⟨rfl, fun W_ hW_ => ox_extract (vs := #[(.agg #[]), (.bool ((lookM m2 x₁.2.id).isSome))]) (v := (.agg #[])) rfl rfl ⟨rfl, rfl⟩⟩) ?_
      refine xd_pure 6 (some 60) rfl rfl (by kernel_rfl) (v := (.bool ((lookM m2 x₁.2.id).isSome))) (.inl ⟨rfl, fun W_ hW_ => ox_extract (vs := #[(.agg #[]), (.bool ((lookM m2 x₁.2.id).isSome))]) (v := (.bool ((lookM m2 x₁.2.id).isSome))) rfl rfl ⟨rfl, rfl⟩⟩) ?_
      refine xd_one 7 (some 14) rfl rfl (by kernel_rfl) rfl (ox_alloc tZ_134 ?_)
      intro w31 e31 z28 b17
      replace b17 : Blk w31 w30.heap.size #[] 134 := b17
      have hS12 : Chg (fun _ => False) w22 w31 := Chg.ext hS11 e31
      refine ⟨.inr fun _ => hS12, ?_⟩
      refine xd_one 8 none rfl rfl (by kernel_rfl) rfl (ox_store (n := 0) (vs := []) tS_134 rfl (v := (.agg #[])) rfl rfl rfl rfl b17 (Nat.le_of_ble_eq_true rfl) ?_)
      intro w32 e32 z29 b18
      replace b18 : Blk w32 w30.heap.size #[] 134 := b18
      refine ⟨.inl (by decide), ?_⟩
      refine xd_pure 9 (some 15) rfl rfl (by kernel_rfl) (v := (.bool ((lookM m2 x₁.2.id).isSome))) (.inl ⟨rfl, fun W_ hW_ => ox_assign (v := (.bool ((lookM m2 x₁.2.id).isSome))) rfl ⟨rfl, rfl⟩⟩) ?_
      refine xd_done (by kernel_rfl) ?_ _
      refine xc_seq ?_
      refine xc_region ?_
      refine xl_op (P := Try.prog) (some 61) rfl rfl (ox_move (v := (.bool ((lookM m2 x₁.2.id).isSome))) rfl ?_)
      refine xl_op (P := Try.prog) (some 62) rfl rfl (ox_not (b := (((lookM m2 x₁.2.id).isSome))) rfl ?_)
      refine xl_nil ?_
      refine xc_cond (b := (!((lookM m2 x₁.2.id).isSome))) rfl (fun h2 => ?_) (fun h2 => ?_)
      · skip
        have h2' := h2
        try simp only [Bool.or_eq_true, Bool.and_eq_true, decide_eq_true_eq, Bool.or_eq_false_iff, Bool.and_eq_false_iff, decide_eq_false_iff_not, Bool.not_eq_true', Bool.not_eq_false'] at h2'
        refine xc_regionE [4] (fun W_ => Chg (fun _ => False) w32 W_) hmix ?_
        intro w33 e33 z30
        have hS13 : Chg (fun _ => False) w32 w33 := Ext.to e33
        have q173 := (((h.k1.keep hcY h.ny.1.1.1).ext e10).ext e11)
        have q174 := (q173.keep1 e12 (q173.ne b7 (by decide)))
        have q175 := ((q174.ext e13).keep e14 (fun _h => (q8.ext e13).ne_blk (q174.ext e13) (by decide) _ _h rfl))
        have q176 := (q175.keep1 e15 (q175.ne q10 (by decide)))
        have q177 := (((q176.ext e16).ext e17).keep e18 (fun _h => ((q21.ext e16).ext e17).ne_blk ((q176.ext e16).ext e17) (by decide) _ _h rfl))
        have q178 := (q177.keep1 e19 (q177.ne q26 (by decide)))
        have q179 := (((q178.ext e20).ext e21).keep1 e22 (((q178.ext e20).ext e21).ne b13 (by decide)))
        have q180 := (((q179.ext e30).ext e31).keep1 e32 (((q179.ext e30).ext e31).ne b17 (by decide)))
        refine xd_take 0 (some 63) rfl rfl (by kernel_rfl) (v := (.map (some w.heap.size))) (.inl ⟨rfl, fun W_ hW_ => ox_load (v := (.map (some w.heap.size))) tA_144 rfl ((q180.ext hW_).cell rfl) ⟨rfl, rfl⟩⟩) hS13 ?_
        refine xd_pure 1 (some 64) rfl rfl (by kernel_rfl) (v := (.pointer (some ⟨x₁.2.b, 0, none⟩))) (.inl ⟨rfl, fun W_ hW_ => ox_move (v := (.pointer (some ⟨x₁.2.b, 0, none⟩))) rfl ⟨rfl, rfl⟩⟩) ?_
        have q181 := (hpx.keep hcY (fun b hb h9 => by have := hlow b (hm.2.1 b hb); have := hY _ h9; omega))
        have q182 := (((q181.ext e10).ext e11).keep e12 (fun b hb h9 => by have := hlow b (hm.2.1 b hb); have := h.low; have := h.chg.size; have := hcY.size; omega))
        have q183 := ((q182.ext e13).keep e14 (fun b hb h9 => by have := hlow b (hm.2.1 b hb); have := (fun _k _h => (h.n3 _k _h).2) _ h9; omega))
        have q184 := (q183.keep e15 (fun b hb h9 => by have := hlow b (hm.2.1 b hb); have := h.low; have := h.chg.size; have := hcY.size; omega))
        have q185 := (((q184.ext e16).ext e17).keep e18 (fun b hb h9 => by have := hlow b (hm.2.1 b hb); have := (fun _k _h => (h.n4 _k _h).2) _ h9; omega))
        have q186 := (q185.keep e19 (fun b hb h9 => by have := hlow b (hm.2.1 b hb); have := h.low; have := h.chg.size; have := hcY.size; omega))
        have q187 := (((q186.ext e20).ext e21).keep e22 (fun b hb h9 => by have := hlow b (hm.2.1 b hb); have := h.low; have := h.chg.size; have := hcY.size; omega))
        have q188 := (((q187.ext e30).ext e31).keep e32 (fun b hb h9 => by have := hlow b (hm.2.1 b hb); have := h.low; have := h.chg.size; have := hcY.size; omega))
        refine xd_take 2 (some 65) rfl rfl (by kernel_rfl) (v := (.int .i64 x₁.2.id)) (.inl ⟨rfl, fun W_ hW_ => ox_callE (al := [(.pointer (some ⟨x₁.2.b, 0, none⟩))]) pf_40 rfl (ret_mono (number_calls stv x₁.2 _ (q188.ext hW_)) (by rintro _ _ ⟨rfl, rfl⟩; exact ⟨rfl, rfl⟩))⟩) hS13 ?_
        have q189 := ((b8.ext e13).keep e14 (fun _h => by have _q := ((q7.ext e10).lt) _ _h; omega))
        have q190 := (q189.keep1 e15 (q189.ne q10 (by decide)))
        have q191 := (((q190.ext e16).ext e17).keep e18 (fun _h => ((q21.ext e16).ext e17).ne_blk ((q190.ext e16).ext e17) (by decide) _ _h rfl))
        have q192 := (q191.keep1 e19 (q191.ne q26 (by decide)))
        have q193 := (((q192.ext e20).ext e21).keep1 e22 (by have _q := b8.lt; omega))
        have q194 := (((q193.ext e30).ext e31).keep1 e32 (((q193.ext e30).ext e31).ne b17 (by decide)))
        refine xd_take 3 (some 66) rfl rfl (by kernel_rfl) (v := (.agg #[(.int .i64 (((pre₁.length : Nat) : Int))), (.int .i64 x₁.1), (.int .i64 (x₁.1 + (wd x₁.2)))])) (.inl ⟨rfl, fun W_ hW_ => ox_loadN (vs := [(.int .i64 (((pre₁.length : Nat) : Int))), (.int .i64 x₁.1), (.int .i64 (x₁.1 + (wd x₁.2)))]) tA_130 tS_130 rfl rfl ⟨(q194.ext hW_).cell rfl, (q194.ext hW_).cell rfl, (q194.ext hW_).cell rfl, trivial⟩ ⟨rfl, rfl⟩⟩) hS13 ?_
        have q195 := (((h.e1.keep hcY h.ny.2.1).ext e10).ext e11)
        have q196 := (q195.keep1 e12 (fun _h => q195.ne_blk b7 _h))
        have q197 := ((q196.ext e13).keep e14 (fun _h => by rcases (q8.ext e13).form with ⟨_e, _⟩ | ⟨_g, _c, _cur, _e, _hb, _⟩ <;> rw [_e] at _h <;> simp [Value.ownBlock] at _h; exact (q196.ext e13).ne_blk _hb _h.symm))
        have q198 := (q197.keep1 e15 (fun _h => q197.ne_blk q10 _h))
        have q199 := (((q198.ext e16).ext e17).keep e18 (fun _h => by rcases ((q21.ext e16).ext e17).form with ⟨_e, _⟩ | ⟨_g, _c, _cur, _e, _hb, _⟩ <;> rw [_e] at _h <;> simp [Value.ownBlock] at _h; exact ((q198.ext e16).ext e17).ne_blk _hb _h.symm))
        have q200 := (q199.keep1 e19 (fun _h => q199.ne_blk q26 _h))
        have q201 := (((q200.ext e20).ext e21).keep1 e22 (fun _h => ((q200.ext e20).ext e21).ne_blk b13 _h))
        have q202 := (((q201.ext e30).ext e31).keep1 e32 (fun _h => ((q201.ext e30).ext e31).ne_blk b17 _h))
        refine xd_one 4 none rfl rfl (by kernel_rfl) rfl (ox_mapUpdate (enc := (fun i : Int => .int .i64 i)) (k := x₁.2.id) (v := (.agg #[(.int .i64 (((pre₁.length : Nat) : Int))), (.int .i64 x₁.1), (.int .i64 (x₁.1 + (wd x₁.2)))])) (keyT_int tU_3) tU_144 (q202.ext e33) rfl rfl rfl ?_)
        intro w34 e34 z31 m5
        refine ⟨.inl (by decide), ?_⟩
        refine xd_done (by kernel_rfl) ?_ _
        have hs2' := hcY.size
        have hs11 := e10.size
        have hs12 := e11.size
        have hs13 := e12.size
        have hs14 := e13.size
        have hs15 := e14.size
        have hs16 := e15.size
        have hs17 := e16.size
        have hs18 := e17.size
        have hs19 := e18.size
        have hs20 := e19.size
        have hs21 := e20.size
        have hs22 := e21.size
        have hs23 := e22.size
        have hs24 := e30.size
        have hs25 := e31.size
        have hs26 := e32.size
        have hs27 := e33.size
        have hs28 := e34.size
        have hM := (Chg.chg1 (Chg.ext (Chg.chg1 (Chg.ext (Chg.ext (Chg.chg1 (Chg.ext (Chg.ext (Chg.chg1 (Chg.trans (Chg.ext (Chg.ext (Chg.chg1 (Chg.trans (Chg.ext (Chg.chg1 (Chg.ext (Chg.ext (Chg.refl (fun b => W.heap.size ≤ b ∨ (b = w1.heap.size ∨ b = w4.heap.size ∨ b = w6.heap.size ∨ b = w7.heap.size ∨ b = w.heap.size ∨ b = w3.heap.size) ∨ (Value.slice A3 pre₁.length p3).ownBlock = some b ∨ (Value.slice A4 pre₁.length p4).ownBlock = some b) W2) e10) e11) e12 (.inl (by first | (right; left; simp; done) | (left; omega)))) e13) e14 (fun b hb hl => by first | exact .inr (.inr (.inl hb)) | exact .inr (.inr (.inr hb)))) e15 (.inl (by first | (right; left; simp; done) | (left; omega)))) e16) e17) e18 (fun b hb hl => by first | exact .inr (.inr (.inl hb)) | exact .inr (.inr (.inr hb)))) e19 (.inl (by first | (right; left; simp; done) | (left; omega)))) e20) e21) e22 (.inl (by first | (right; left; simp; done) | (left; omega)))) e30) e31) e32 (.inl (by first | (right; left; simp; done) | (left; omega)))) e33) e34 (.inl (by first | (right; left; simp; done) | (left; omega))))
        have q203 := (((h.k1.keep hcY h.ny.1.1.1).ext e10).ext e11)
        have q204 := (q203.keep1 e12 (q203.ne b7 (by decide)))
        have q205 := ((q204.ext e13).keep e14 (fun _h => (q8.ext e13).ne_blk (q204.ext e13) (by decide) _ _h rfl))
        have q206 := (q205.keep1 e15 (q205.ne q10 (by decide)))
        have q207 := (((q206.ext e16).ext e17).keep e18 (fun _h => ((q21.ext e16).ext e17).ne_blk ((q206.ext e16).ext e17) (by decide) _ _h rfl))
        have q208 := (q207.keep1 e19 (q207.ne q26 (by decide)))
        have q209 := (((q208.ext e20).ext e21).keep1 e22 (((q208.ext e20).ext e21).ne b13 (by decide)))
        have q210 := (((q209.ext e30).ext e31).keep1 e32 (((q209.ext e30).ext e31).ne b17 (by decide)))
        have q211 := ((q210.ext e33).keep1 e34 (fun _h => (q202.ext e33).ne_blk (q210.ext e33) _h.symm))
        have hq0 := q211
        have q212 := (((h.k2.keep hcY h.ny.1.1.2).ext e10).ext e11)
        have q213 := (q212.keep1 e12 (q212.ne b7 (by decide)))
        have q214 := ((q213.ext e13).keep e14 (fun _h => (q8.ext e13).ne_blk (q213.ext e13) (by decide) _ _h rfl))
        have q215 := (q214.keep1 e15 (q214.ne q10 (by decide)))
        have q216 := (((q215.ext e16).ext e17).keep e18 (fun _h => ((q21.ext e16).ext e17).ne_blk ((q215.ext e16).ext e17) (by decide) _ _h rfl))
        have q217 := (q216.keep1 e19 (q216.ne q26 (by decide)))
        have q218 := (((q217.ext e20).ext e21).keep1 e22 (((q217.ext e20).ext e21).ne b13 (by decide)))
        have q219 := (((q218.ext e30).ext e31).keep1 e32 (((q218.ext e30).ext e31).ne b17 (by decide)))
        have q220 := ((q219.ext e33).keep1 e34 (fun _h => (q202.ext e33).ne_blk (q219.ext e33) _h.symm))
        have hq1 := q220
        have q221 := (((b10.ext e16).ext e17).keep e18 (fun _h => ((q21.ext e16).ext e17).ne_blk ((b10.ext e16).ext e17) (by decide) _ _h rfl))
        have q222 := (q221.keep1 e19 (q221.ne q26 (by decide)))
        have q223 := (((q222.ext e20).ext e21).keep1 e22 (((q222.ext e20).ext e21).ne b13 (by decide)))
        have q224 := (((q223.ext e30).ext e31).keep1 e32 (((q223.ext e30).ext e31).ne b17 (by decide)))
        have q225 := ((q224.ext e33).keep1 e34 (fun _h => (q202.ext e33).ne_blk (q224.ext e33) _h.symm))
        have hq2 := q225
        have q226 := (((b12.ext e20).ext e21).keep1 e22 (((b12.ext e20).ext e21).ne b13 (by decide)))
        have q227 := (((q226.ext e30).ext e31).keep1 e32 (((q226.ext e30).ext e31).ne b17 (by decide)))
        have q228 := ((q227.ext e33).keep1 e34 (fun _h => (q202.ext e33).ne_blk (q227.ext e33) _h.symm))
        have hq3 := q228
        have hq4 := m5
        have q229 := (((h.e2.keep hcY h.ny.2.2).ext e10).ext e11)
        have q230 := (q229.keep1 e12 (fun _h => q229.ne_blk b7 _h))
        have q231 := ((q230.ext e13).keep e14 (fun _h => by rcases (q8.ext e13).form with ⟨_e, _⟩ | ⟨_g, _c, _cur, _e, _hb, _⟩ <;> rw [_e] at _h <;> simp [Value.ownBlock] at _h; exact (q230.ext e13).ne_blk _hb _h.symm))
        have q232 := (q231.keep1 e15 (fun _h => q231.ne_blk q10 _h))
        have q233 := (((q232.ext e16).ext e17).keep e18 (fun _h => by rcases ((q21.ext e16).ext e17).form with ⟨_e, _⟩ | ⟨_g, _c, _cur, _e, _hb, _⟩ <;> rw [_e] at _h <;> simp [Value.ownBlock] at _h; exact ((q232.ext e16).ext e17).ne_blk _hb _h.symm))
        have q234 := (q233.keep1 e19 (fun _h => q233.ne_blk q26 _h))
        have q235 := (((q234.ext e20).ext e21).keep1 e22 (fun _h => ((q234.ext e20).ext e21).ne_blk b13 _h))
        have q236 := (((q235.ext e30).ext e31).keep1 e32 (fun _h => ((q235.ext e30).ext e31).ne_blk b17 _h))
        have q237 := ((q236.ext e33).keep1 e34 (by have _q := h.e2.lt; omega))
        have hq5 := q237
        have q238 := (o1.keep1 e15 (fun k hk => o1.ne_blk q10 (by decide) k hk))
        have q239 := (((q238.ext e16).ext e17).keep e18 (fun _k _hk => ((q238.ext e16).ext e17).ne_own ((q21.ext e16).ext e17) (by decide) _k _hk))
        have q240 := (q239.keep1 e19 (fun k hk => q239.ne_blk q26 (by decide) k hk))
        have q241 := (((q240.ext e20).ext e21).keep1 e22 (fun k hk => by have _q := ((q240.ext e20).lt) k hk; omega))
        have q242 := (((q241.ext e30).ext e31).keep1 e32 (fun k hk => ((q241.ext e30).ext e31).ne_blk b17 (by decide) k hk))
        have q243 := ((q242.ext e33).keep1 e34 (fun k hk => (q242.ext e33).ne_map (q202.ext e33) k hk))
        have hq6 := q243
        have q244 := (o2.keep1 e19 (fun k hk => o2.ne_blk q26 (by decide) k hk))
        have q245 := (((q244.ext e20).ext e21).keep1 e22 (fun k hk => ((q244.ext e20).ext e21).ne_blk b13 (by decide) k hk))
        have q246 := (((q245.ext e30).ext e31).keep1 e32 (fun k hk => ((q245.ext e30).ext e31).ne_blk b17 (by decide) k hk))
        have q247 := ((q246.ext e33).keep1 e34 (fun k hk => (q246.ext e33).ne_map (q202.ext e33) k hk))
        have hq7 := q247
        have hnew3 : ∀ k, (Value.slice A1 (pre₁.length + 1) c1).ownBlock = some k → ¬ Y k ∧ w.heap.size ≤ k := by
          intro k hk; rcases at1 with h9 | h9
          · rw [h9] at hk; exact h.n3 k hk
          · rw [h9] at hk; cases hk; exact ⟨fun hy => by have := (hY _ hy).2; omega, by have := h.chg.size; omega⟩
        have hnew4 : ∀ k, (Value.slice A2 (pre₁.length + 1) c2).ownBlock = some k → ¬ Y k ∧ w.heap.size ≤ k := by
          intro k hk; rcases at2 with h9 | h9
          · rw [h9] at hk; exact h.n4 k hk
          · rw [h9] at hk; cases hk; exact ⟨fun hy => by have := (hY _ hy).2; omega, by have := h.chg.size; omega⟩
        have hMM : Mine w.heap.size Y W2 w34 := hM.mono fun b hl hb => by
          have hlw := h.low; have hny := h.ny
          rcases hb with hb | (hb | hb | hb | hb | hb | hb) | hb | hb
          · exact ⟨fun hy => by have := (hY _ hy).2; omega, by have := h.chg.size; omega⟩
          · subst hb; exact ⟨hny.1.1.1, hlw.1.1.1⟩
          · subst hb; exact ⟨hny.1.1.2, hlw.1.1.2⟩
          · subst hb; exact ⟨hny.1.2.1, hlw.1.2.1⟩
          · subst hb; exact ⟨hny.1.2.2, hlw.1.2.2⟩
          · subst hb; exact ⟨hny.2.1, hlw.2.1⟩
          · subst hb; exact ⟨hny.2.2, hlw.2.2⟩
          · exact h.n3 b hb
          · exact h.n4 b hb
        refine ⟨hMM, setM m1 x₁.2.id (.agg #[(.int .i64 (((pre₁.length : Nat) : Int))), (.int .i64 x₁.1), (.int .i64 (x₁.1 + (wd x₁.2)))]), m2, A1, A2, c1, c2, ?_⟩
        have hln : (pre₁ ++ [x₁]).length = pre₁.length + 1 := by simp
        refine ⟨hq0, hq1, by rw [hln]; exact hq2, by rw [hln]; exact hq3, hq4, hq5, h.m.fresh h1 (by simpa using h2), by rw [hln, spL_snoc, spC_snoc]; exact hq6, by rw [hln, ids_snoc, List.map_append]; exact hq7, h.ny, by rw [hln]; exact hnew3, by rw [hln]; exact hnew4, h.low, ?_⟩
        exact Chg.trans (Chg.trans h.chg hcY fun b hb _ => (hY b hb).1) hMM fun b hb _ => hb.2
      · skip
        have h2' := h2
        try simp only [Bool.or_eq_true, Bool.and_eq_true, decide_eq_true_eq, Bool.or_eq_false_iff, Bool.and_eq_false_iff, decide_eq_false_iff_not, Bool.not_eq_true', Bool.not_eq_false'] at h2'
        refine xc_skip ?_
        have hs2' := hcY.size
        have hs11 := e10.size
        have hs12 := e11.size
        have hs13 := e12.size
        have hs14 := e13.size
        have hs15 := e14.size
        have hs16 := e15.size
        have hs17 := e16.size
        have hs18 := e17.size
        have hs19 := e18.size
        have hs20 := e19.size
        have hs21 := e20.size
        have hs22 := e21.size
        have hs23 := e22.size
        have hs24 := e30.size
        have hs25 := e31.size
        have hs26 := e32.size
        have hM := (Chg.chg1 (Chg.ext (Chg.ext (Chg.chg1 (Chg.ext (Chg.ext (Chg.chg1 (Chg.trans (Chg.ext (Chg.ext (Chg.chg1 (Chg.trans (Chg.ext (Chg.chg1 (Chg.ext (Chg.ext (Chg.refl (fun b => W.heap.size ≤ b ∨ (b = w1.heap.size ∨ b = w4.heap.size ∨ b = w6.heap.size ∨ b = w7.heap.size ∨ b = w.heap.size ∨ b = w3.heap.size) ∨ (Value.slice A3 pre₁.length p3).ownBlock = some b ∨ (Value.slice A4 pre₁.length p4).ownBlock = some b) W2) e10) e11) e12 (.inl (by first | (right; left; simp; done) | (left; omega)))) e13) e14 (fun b hb hl => by first | exact .inr (.inr (.inl hb)) | exact .inr (.inr (.inr hb)))) e15 (.inl (by first | (right; left; simp; done) | (left; omega)))) e16) e17) e18 (fun b hb hl => by first | exact .inr (.inr (.inl hb)) | exact .inr (.inr (.inr hb)))) e19 (.inl (by first | (right; left; simp; done) | (left; omega)))) e20) e21) e22 (.inl (by first | (right; left; simp; done) | (left; omega)))) e30) e31) e32 (.inl (by first | (right; left; simp; done) | (left; omega))))
        have q248 := (((h.k1.keep hcY h.ny.1.1.1).ext e10).ext e11)
        have q249 := (q248.keep1 e12 (q248.ne b7 (by decide)))
        have q250 := ((q249.ext e13).keep e14 (fun _h => (q8.ext e13).ne_blk (q249.ext e13) (by decide) _ _h rfl))
        have q251 := (q250.keep1 e15 (q250.ne q10 (by decide)))
        have q252 := (((q251.ext e16).ext e17).keep e18 (fun _h => ((q21.ext e16).ext e17).ne_blk ((q251.ext e16).ext e17) (by decide) _ _h rfl))
        have q253 := (q252.keep1 e19 (q252.ne q26 (by decide)))
        have q254 := (((q253.ext e20).ext e21).keep1 e22 (((q253.ext e20).ext e21).ne b13 (by decide)))
        have q255 := (((q254.ext e30).ext e31).keep1 e32 (((q254.ext e30).ext e31).ne b17 (by decide)))
        have hq0 := q255
        have q256 := (((h.k2.keep hcY h.ny.1.1.2).ext e10).ext e11)
        have q257 := (q256.keep1 e12 (q256.ne b7 (by decide)))
        have q258 := ((q257.ext e13).keep e14 (fun _h => (q8.ext e13).ne_blk (q257.ext e13) (by decide) _ _h rfl))
        have q259 := (q258.keep1 e15 (q258.ne q10 (by decide)))
        have q260 := (((q259.ext e16).ext e17).keep e18 (fun _h => ((q21.ext e16).ext e17).ne_blk ((q259.ext e16).ext e17) (by decide) _ _h rfl))
        have q261 := (q260.keep1 e19 (q260.ne q26 (by decide)))
        have q262 := (((q261.ext e20).ext e21).keep1 e22 (((q261.ext e20).ext e21).ne b13 (by decide)))
        have q263 := (((q262.ext e30).ext e31).keep1 e32 (((q262.ext e30).ext e31).ne b17 (by decide)))
        have hq1 := q263
        have q264 := (((b10.ext e16).ext e17).keep e18 (fun _h => ((q21.ext e16).ext e17).ne_blk ((b10.ext e16).ext e17) (by decide) _ _h rfl))
        have q265 := (q264.keep1 e19 (q264.ne q26 (by decide)))
        have q266 := (((q265.ext e20).ext e21).keep1 e22 (((q265.ext e20).ext e21).ne b13 (by decide)))
        have q267 := (((q266.ext e30).ext e31).keep1 e32 (((q266.ext e30).ext e31).ne b17 (by decide)))
        have hq2 := q267
        have q268 := (((b12.ext e20).ext e21).keep1 e22 (((b12.ext e20).ext e21).ne b13 (by decide)))
        have q269 := (((q268.ext e30).ext e31).keep1 e32 (((q268.ext e30).ext e31).ne b17 (by decide)))
        have hq3 := q269
        have q270 := (((h.e1.keep hcY h.ny.2.1).ext e10).ext e11)
        have q271 := (q270.keep1 e12 (fun _h => q270.ne_blk b7 _h))
        have q272 := ((q271.ext e13).keep e14 (fun _h => by rcases (q8.ext e13).form with ⟨_e, _⟩ | ⟨_g, _c, _cur, _e, _hb, _⟩ <;> rw [_e] at _h <;> simp [Value.ownBlock] at _h; exact (q271.ext e13).ne_blk _hb _h.symm))
        have q273 := (q272.keep1 e15 (fun _h => q272.ne_blk q10 _h))
        have q274 := (((q273.ext e16).ext e17).keep e18 (fun _h => by rcases ((q21.ext e16).ext e17).form with ⟨_e, _⟩ | ⟨_g, _c, _cur, _e, _hb, _⟩ <;> rw [_e] at _h <;> simp [Value.ownBlock] at _h; exact ((q273.ext e16).ext e17).ne_blk _hb _h.symm))
        have q275 := (q274.keep1 e19 (fun _h => q274.ne_blk q26 _h))
        have q276 := (((q275.ext e20).ext e21).keep1 e22 (fun _h => ((q275.ext e20).ext e21).ne_blk b13 _h))
        have q277 := (((q276.ext e30).ext e31).keep1 e32 (fun _h => ((q276.ext e30).ext e31).ne_blk b17 _h))
        have hq4 := q277
        have q278 := (((h.e2.keep hcY h.ny.2.2).ext e10).ext e11)
        have q279 := (q278.keep1 e12 (fun _h => q278.ne_blk b7 _h))
        have q280 := ((q279.ext e13).keep e14 (fun _h => by rcases (q8.ext e13).form with ⟨_e, _⟩ | ⟨_g, _c, _cur, _e, _hb, _⟩ <;> rw [_e] at _h <;> simp [Value.ownBlock] at _h; exact (q279.ext e13).ne_blk _hb _h.symm))
        have q281 := (q280.keep1 e15 (fun _h => q280.ne_blk q10 _h))
        have q282 := (((q281.ext e16).ext e17).keep e18 (fun _h => by rcases ((q21.ext e16).ext e17).form with ⟨_e, _⟩ | ⟨_g, _c, _cur, _e, _hb, _⟩ <;> rw [_e] at _h <;> simp [Value.ownBlock] at _h; exact ((q281.ext e16).ext e17).ne_blk _hb _h.symm))
        have q283 := (q282.keep1 e19 (fun _h => q282.ne_blk q26 _h))
        have q284 := (((q283.ext e20).ext e21).keep1 e22 (fun _h => ((q283.ext e20).ext e21).ne_blk b13 _h))
        have q285 := (((q284.ext e30).ext e31).keep1 e32 (fun _h => ((q284.ext e30).ext e31).ne_blk b17 _h))
        have hq5 := q285
        have q286 := (o1.keep1 e15 (fun k hk => o1.ne_blk q10 (by decide) k hk))
        have q287 := (((q286.ext e16).ext e17).keep e18 (fun _k _hk => ((q286.ext e16).ext e17).ne_own ((q21.ext e16).ext e17) (by decide) _k _hk))
        have q288 := (q287.keep1 e19 (fun k hk => q287.ne_blk q26 (by decide) k hk))
        have q289 := (((q288.ext e20).ext e21).keep1 e22 (fun k hk => by have _q := ((q288.ext e20).lt) k hk; omega))
        have q290 := (((q289.ext e30).ext e31).keep1 e32 (fun k hk => ((q289.ext e30).ext e31).ne_blk b17 (by decide) k hk))
        have hq6 := q290
        have q291 := (o2.keep1 e19 (fun k hk => o2.ne_blk q26 (by decide) k hk))
        have q292 := (((q291.ext e20).ext e21).keep1 e22 (fun k hk => ((q291.ext e20).ext e21).ne_blk b13 (by decide) k hk))
        have q293 := (((q292.ext e30).ext e31).keep1 e32 (fun k hk => ((q292.ext e30).ext e31).ne_blk b17 (by decide) k hk))
        have hq7 := q293
        have hnew3 : ∀ k, (Value.slice A1 (pre₁.length + 1) c1).ownBlock = some k → ¬ Y k ∧ w.heap.size ≤ k := by
          intro k hk; rcases at1 with h9 | h9
          · rw [h9] at hk; exact h.n3 k hk
          · rw [h9] at hk; cases hk; exact ⟨fun hy => by have := (hY _ hy).2; omega, by have := h.chg.size; omega⟩
        have hnew4 : ∀ k, (Value.slice A2 (pre₁.length + 1) c2).ownBlock = some k → ¬ Y k ∧ w.heap.size ≤ k := by
          intro k hk; rcases at2 with h9 | h9
          · rw [h9] at hk; exact h.n4 k hk
          · rw [h9] at hk; cases hk; exact ⟨fun hy => by have := (hY _ hy).2; omega, by have := h.chg.size; omega⟩
        have hMM : Mine w.heap.size Y W2 w32 := hM.mono fun b hl hb => by
          have hlw := h.low; have hny := h.ny
          rcases hb with hb | (hb | hb | hb | hb | hb | hb) | hb | hb
          · exact ⟨fun hy => by have := (hY _ hy).2; omega, by have := h.chg.size; omega⟩
          · subst hb; exact ⟨hny.1.1.1, hlw.1.1.1⟩
          · subst hb; exact ⟨hny.1.1.2, hlw.1.1.2⟩
          · subst hb; exact ⟨hny.1.2.1, hlw.1.2.1⟩
          · subst hb; exact ⟨hny.1.2.2, hlw.1.2.2⟩
          · subst hb; exact ⟨hny.2.1, hlw.2.1⟩
          · subst hb; exact ⟨hny.2.2, hlw.2.2⟩
          · exact h.n3 b hb
          · exact h.n4 b hb
        refine ⟨hMM, m1, m2, A1, A2, c1, c2, ?_⟩
        have hln : (pre₁ ++ [x₁]).length = pre₁.length + 1 := by simp
        refine ⟨hq0, hq1, by rw [hln]; exact hq2, by rw [hln]; exact hq3, hq4, hq5, h.m.more h1 (by simpa using h2), by rw [hln, spL_snoc, spC_snoc]; exact hq6, by rw [hln, ids_snoc, List.map_append]; exact hq7, h.ny, by rw [hln]; exact hnew3, by rw [hln]; exact hnew4, h.low, ?_⟩
        exact Chg.trans (Chg.trans h.chg hcY fun b hb _ => (hY b hb).1) hMM fun b hb _ => hb.2
  · skip
    intro D Y W hD hY hYD hI hheap
    obtain ⟨m1, m2, A3, A4, p3, p4, h⟩ := hI
    refine xc_seq ?_
    refine xc_regionE [] (fun W_ => Chg (fun _ => False) W W_) hmix ?_
    intro w35 e35 z32
    have hS14 : Chg (fun _ => False) W w35 := Ext.to e35
    refine xd_take 0 (some 67) rfl rfl (by kernel_rfl) (v := (.map (some w.heap.size))) (.inl ⟨rfl, fun W_ hW_ => ox_load (v := (.map (some w.heap.size))) tA_144 rfl ((h.k1.ext hW_).cell rfl) ⟨rfl, rfl⟩⟩) hS14 ?_
    refine xd_take 1 (some 68) rfl rfl (by kernel_rfl) (v := (.slice A3 ((leafI root).length) p3)) (.inl ⟨rfl, fun W_ hW_ => ox_load (v := (.slice A3 ((leafI root).length) p3)) tA_105 rfl ((h.k3.ext hW_).cell rfl) ⟨rfl, rfl⟩⟩) hS14 ?_
    refine xd_take 2 (some 69) rfl rfl (by kernel_rfl) (v := (.slice A4 ((leafI root).length) p4)) (.inl ⟨rfl, fun W_ hW_ => ox_load (v := (.slice A4 ((leafI root).length) p4)) tA_42 rfl ((h.k4.ext hW_).cell rfl) ⟨rfl, rfl⟩⟩) hS14 ?_
    refine xd_pure 3 (some 2) rfl rfl (by kernel_rfl) (v := (.map (some w.heap.size))) (.inl ⟨rfl, fun W_ hW_ => ox_assign (v := (.map (some w.heap.size))) rfl ⟨rfl, rfl⟩⟩) ?_
    refine xd_pure 4 (some 3) rfl rfl (by kernel_rfl) (v := (.slice A3 ((leafI root).length) p3)) (.inl ⟨rfl, fun W_ hW_ => ox_assign (v := (.slice A3 ((leafI root).length) p3)) rfl ⟨rfl, rfl⟩⟩) ?_
    refine xd_pure 5 (some 4) rfl rfl (by kernel_rfl) (v := (.slice A4 ((leafI root).length) p4)) (.inl ⟨rfl, fun W_ hW_ => ox_assign (v := (.slice A4 ((leafI root).length) p4)) rfl ⟨rfl, rfl⟩⟩) ?_
    refine xd_done (by kernel_rfl) ?_ _
    refine xc_ret ?_
    change leaves _ _ _ _ _ _ _
    have hEx : Ext W w35 := e35
    refine leaves_marks [D] _ (fun D' hD' => by simp at hD'; subst hD'; exact (hEx.keep D' (hY D' hYD).2 not_false).trans hheap) (by simp) (fun w9 hc9 hs9 => ?_)
    refine leaves_nil (n := 70) (rs := [.tmp 2, .tmp 3, .tmp 4]) (vs := [(.map (some w.heap.size)), (.slice A3 ((leafI root).length) p3), (.slice A4 ((leafI root).length) p4)]) rfl ⟨⟨by decide, rfl⟩, ⟨by decide, rfl⟩, ⟨by decide, rfl⟩, trivial⟩ ?_
    have hD9 : ∀ b, b ∈ [D] → b = D := fun b hb => by simpa using hb
    exact ⟨_, m1, m2, A3, A4, p3, p4, rfl, h.low.2.1, (h.e1.ext hEx).keep hc9 (fun h9 => by have h8 := hD9 _ h9; have h7 := h.ny.2.1; rw [h8] at h7; exact h7 hYD), h.m, (h.o3.ext hEx).keep hc9 (fun k hk h9 => (h.n3 k hk).1 (by rw [hD9 k h9]; exact hYD)), (h.o4.ext hEx).keep hc9 (fun k hk h9 => (h.n4 k hk).1 (by rw [hD9 k h9]; exact hYD)), fun k hk => (h.n3 k hk).2, fun k hk => (h.n4 k hk).2, Chg.trans (Chg.trans (Chg.refl (fun _ => False) w) (h.chg.mono fun b hl h9 => by omega) fun b h9 _ => h9) (hEx.chg hc9) fun b hb hl => by rw [hD9 b hb] at hl; omega⟩
  · skip
    intro D Y c pre W hD hY hYD hpre hI hheap; exact hI.elim

end Go.Proofs.Ythhbnodnpajljaa
