/-
  Rows; numbers, has, rows. No conditions.
-/
import Derived.Test.YthhbnodnpajljaaVxi
import Derived.Test.YthhbnodnpajljaaRows
import Derived.Test.YthhbnodnpajljaaRia
import Derived.Test.YthhbnodnpajljaaDi
import Derived.Test.YthhbnodnpajljaaRgb
import Derived.Test.YthhbnodnpajljaaDeb
set_option linter.unusedVariables false
set_option linter.unusedSimpArgs false
set_option maxRecDepth 100000
set_option maxHeartbeats 4000000
namespace Go.Proofs.Ythhbnodnpajljaa
open Go Go.RowKit Go.Vx


theorem fS_70 : flatS Try.prog 70 [some .i64, some .i64, some .i64, some .i64, some .i64, some .i64] = true := by kernel_rfl
theorem pf_26 : plainF Try.prog 26 = true := by kernel_rfl
theorem tA_64 : isAggT Try.prog 64 = some false := by kernel_rfl
theorem tA_70 : isAggT Try.prog 70 = some true := by kernel_rfl
theorem tE_42 : sliceT Try.prog 42 = some (3, 1, 8, (.int .i64 0)) := by kernel_rfl
theorem tE_64 : sliceT Try.prog 64 = some (70, 6, 48, (.agg #[(.int .i64 0), (.int .i64 0), (.int .i64 0), (.int .i64 0), (.int .i64 0), (.int .i64 0)])) := by kernel_rfl
theorem tF_124_8 : fieldT Try.prog 124 8 = some 11 := by kernel_rfl
theorem tF_70_5 : fieldT Try.prog 70 5 = some 5 := by kernel_rfl
theorem tF_84_1 : fieldT Try.prog 84 1 = some 1 := by kernel_rfl
theorem tF_84_2 : fieldT Try.prog 84 2 = some 2 := by kernel_rfl
theorem tP_70 : placesT Try.prog 70 = some #[(0, 1), (1, 1), (2, 1), (3, 1), (4, 1), (5, 1)] := by kernel_rfl
theorem tS_3 : sizeT Try.prog 3 = some 1 := by kernel_rfl
theorem tS_64 : sizeT Try.prog 64 = some 1 := by kernel_rfl
theorem tS_70 : sizeT Try.prog 70 = some 6 := by kernel_rfl
theorem tU_42 : Try.prog.underlying 42 = some (.slice 3) := by kernel_rfl
theorem tU_64 : Try.prog.underlying 64 = some (.slice 70) := by kernel_rfl
theorem tZ_64 : zeroOf Try.prog 64 = some (.slice none 0 0) := by kernel_rfl
theorem tZ_70 : zeroOf Try.prog 70 = some (.agg #[(.int .i64 0), (.int .i64 0), (.int .i64 0), (.int .i64 0), (.int .i64 0), (.int .i64 0)]) := by kernel_rfl

theorem rows_calls (stv : Value) (root : T) (w : World) (hP : PN stv w root) (hW : WF root) (hsz : sz root ≤ 4194304) :
    Calls Try.prog 26 #[(.pointer (some ⟨root.b, 0, none⟩))] w (Ret (fun v w' => ∃ A c, v = .slice A (nodes root).length c ∧ Vx.Own w' 70 6 (.slice A (nodes root).length c) (nodes root).length (rwC (nodes root)) ∧ (∀ k, (Value.slice A (nodes root).length c).ownBlock = some k → w.heap.size ≤ k) ∧ Ext w w')) := by
  refine calls_xc (n := 47) (f := fun s_ => [(.pointer (some ⟨root.b, 0, none⟩))].getD s_ undef) Try.func26 rfl rfl (by simp) (fun s_ => by simp) ?_
  refine xc_seq ?_
  refine xc_region ?_
  refine xl_op (P := Try.prog) (some 2) rfl rfl (ox_assign (v := (.slice none 0 0)) rfl ?_)
  refine xl_nil ?_
  refine xc_seq ?_
  refine xc_region ?_
  refine xl_op (P := Try.prog) (some 6) rfl rfl (ox_move (v := (.pointer (some ⟨root.b, 0, none⟩))) rfl ?_)
  refine xl_op (P := Try.prog) (some 7) rfl rfl (ox_nilCheck (p := ⟨root.b, 0, none⟩) rfl ?_)
  refine xl_op (P := Try.prog) (some 8) rfl rfl (ox_fieldAddr (b := root.b) (o := 0) tF_124_8 rfl ?_)
  refine xl_op (P := Try.prog) (some 9) rfl rfl (ox_load (v := (.int .i64 (sz root))) tA_3 rfl (hP.blk.cell rfl) ?_)
  refine xl_op (P := Try.prog) (some 10) rfl rfl (ox_makeSlice0 ((sz root).toNat) tE_64 rfl rfl (by have := sz_pos root; omega) (by omega) (by omega) ?_)
  intro w1 e1 z1 o1
  have he1 := e1.size
  refine xl_op (P := Try.prog) (some 3) rfl rfl (ox_alloc tZ_64 ?_)
  intro w2 e2 z2 b1
  replace b1 : Blk w2 w1.heap.size #[(.slice none 0 0)] 64 := b1
  refine xl_op (P := Try.prog) none rfl rfl (ox_store (n := 1) (vs := [(.slice (some ⟨w.heap.size, 0, none⟩) 0 ((sz root).toNat))]) tS_64 rfl (v := (.slice (some ⟨w.heap.size, 0, none⟩) 0 ((sz root).toNat))) rfl rfl rfl rfl b1 (Nat.le_of_ble_eq_true rfl) ?_)
  intro w3 e3 z3 b2
  replace b2 : Blk w3 w1.heap.size #[(.slice (some ⟨w.heap.size, 0, none⟩) 0 ((sz root).toNat))] 64 := b2
  refine xl_nil ?_
  refine xc_seq ?_
  refine xc_seq ?_
  refine xc_region ?_
  refine xl_op (P := Try.prog) (some 11) rfl rfl (ox_move (v := (.pointer (some ⟨root.b, 0, none⟩))) rfl ?_)
  refine xl_op (P := Try.prog) (some 12) rfl rfl (ox_callE (al := [(.pointer (some ⟨root.b, 0, none⟩))]) pf_57 rfl (ret_mono (walkF_calls root.b w3) ?_))
  rintro _ w4 ⟨rfl, hbk, zbk, e4⟩
  have he4 := e4.size
  refine xl_nil ?_
  refine xc_block ?_
  have hE : Ext w w4 := (Ext.trans (Ext.chg1 (Ext.trans e1 e2) e3 (by omega)) e4)
  have hEs := hE.size
  have hbk0 := hbk.lt
  have htb0 := (b2.ext e4).lt
  have q1 := ((o1.ext e2).keep1 e3 (fun k hk => (o1.ext e2).ne_blk b1 (by decide) k hk))
  have hob0 := ((q1.ext e4)).lt _ rfl
  have hlow : ∀ b ∈ blocks root, b < w.heap.size := PN.lt hP
  have hBX : ∀ b, b = w3.heap.size → w.heap.size ≤ b ∧ b < w4.heap.size := fun b hb => by subst hb; omega
  have hit := walk_iter (X := fun b => b = w3.heap.size) (B := w.heap.size) hbk (hP.ext hE) hW hsz hlow (.inl rfl) hBX (by omega)
  have hI0 : rwI w.heap.size w w1.heap.size [] (fun b => b = w3.heap.size) w4 := ⟨_, _, (b2.ext e4), (q1.ext e4), by omega, fun k hk => by simp [Value.ownBlock] at hk; omega, by omega, Ext.to hE⟩
  refine xc_range (ps := #[13, 14]) (α := Int × T) (gf := 69) (lb := #[.pointer (some ⟨w3.heap.size, 0, none⟩)]) (encs := encW) (B := w.heap.size) (X0 := fun b => b = w3.heap.size) (xs := walkT 0 root) rfl pf_69 (fun _ => rfl) hit (by omega) hBX (rwI w.heap.size w w1.heap.size) (fun _ _ _ _ => False) rwI_stab (fun _ _ _ _ _ _ _ h => h.elim) hI0 ?_ ?_ ?_
  · intro l₁ pre₁ x₁ Y W hpre hY hYl hl₁ hI
    obtain ⟨A, c, h⟩ := hI
    have hmem : x₁ ∈ walkT 0 root := hpre.subset (by simp)
    have hm := walkT_mem hmem
    have hlp : pre₁.length + 1 ≤ 4194304 := by have h1 := hpre.length_le; have h2 := walk_len root; have h3 := nodes_len root; simp at h1; omega
    have hpx : PN stv W x₁.2 := PN.keep h.chg (hm.1 stv w hP) fun b hb h => by have := hlow b (hm.2.1 b hb); omega
    have hsz0 := h.chg.size
    have hxl := hlow _ (hm.2.1 _ (blocks_b x₁.2))
    have hkl := szL_len x₁.2.kids; have hks := sz_kids x₁.2; have hms := hm.2.2.2.1
    refine xc_region ?_
    refine xl_op (P := Try.prog) (some 5) rfl rfl (ox_assign (v := (.pointer (some ⟨x₁.2.b, 0, none⟩))) rfl ?_)
    refine xl_nil ?_
    refine ⟨rfl, rfl, Chg.refl _ _, fun W2 hcY hsY hlY => ?_⟩
    have hszY := hcY.size
    refine xc_block ?_
    refine xc_regionE [31] (fun W_ => Chg (fun x => ((.slice A pre₁.length c) : Value).ownBlock = some x) W2 W_) hmix ?_
    intro w5 e5 z4
    have hS1 : Chg (fun x => ((.slice A pre₁.length c) : Value).ownBlock = some x) W2 w5 := Ext.to e5
    refine xd_take 0 (some 15) rfl rfl (by kernel_rfl) (v := (.slice A pre₁.length c)) (.inl ⟨rfl, fun W_ hW_ => ox_load (v := (.slice A pre₁.length c)) tA_64 rfl (((h.blk.keep hcY h.ny).keep hW_ (fun _h => h.own.ne_blk h.blk (by decide) _ _h rfl)).cell rfl) ⟨rfl, rfl⟩⟩) hS1 ?_
    refine xd_pure 1 (some 16) rfl rfl (by kernel_rfl) (v := (.pointer (some ⟨x₁.2.b, 0, none⟩))) (.inl ⟨rfl, fun W_ hW_ => ox_move (v := (.pointer (some ⟨x₁.2.b, 0, none⟩))) rfl ⟨rfl, rfl⟩⟩) ?_
    refine xd_pure 2 (some 17) rfl rfl (by kernel_rfl) (v := (.pointer (some ⟨x₁.2.b, 0, none⟩))) (.inl ⟨rfl, fun W_ hW_ => ox_nilCheck (p := ⟨x₁.2.b, 0, none⟩) rfl ⟨rfl, rfl⟩⟩) ?_
    refine xd_pure 3 (some 18) rfl rfl (by kernel_rfl) (v := (.pointer (some ⟨x₁.2.b, 2, none⟩))) (.inl ⟨rfl, fun W_ hW_ => ox_fieldAddr (b := x₁.2.b) (o := 0) tF_124_2 rfl ⟨rfl, rfl⟩⟩) ?_
    have q2 := (hpx.blk.keep hcY (fun h9 => by have := hY _ h9; omega))
    refine xd_take 4 (some 19) rfl rfl (by kernel_rfl) (v := (.int .i64 x₁.2.kind)) (.inl ⟨rfl, fun W_ hW_ => ox_load (v := (.int .i64 x₁.2.kind)) tA_3 rfl ((q2.keep hW_ (fun _h => h.own.ne_blk hpx.blk (by decide) _ _h rfl)).cell rfl) ⟨rfl, rfl⟩⟩) hS1 ?_
    refine xd_pure 5 (some 20) rfl rfl (by kernel_rfl) (v := (.pointer (some ⟨x₁.2.b, 0, none⟩))) (.inl ⟨rfl, fun W_ hW_ => ox_move (v := (.pointer (some ⟨x₁.2.b, 0, none⟩))) rfl ⟨rfl, rfl⟩⟩) ?_
    refine xd_pure 6 (some 21) rfl rfl (by kernel_rfl) (v := (.pointer (some ⟨x₁.2.b, 0, none⟩))) (.inl ⟨rfl, fun W_ hW_ => ox_nilCheck (p := ⟨x₁.2.b, 0, none⟩) rfl ⟨rfl, rfl⟩⟩) ?_
    refine xd_pure 7 (some 22) rfl rfl (by kernel_rfl) (v := (.pointer (some ⟨x₁.2.b, 3, none⟩))) (.inl ⟨rfl, fun W_ hW_ => ox_fieldAddr (b := x₁.2.b) (o := 0) tF_124_3 rfl ⟨rfl, rfl⟩⟩) ?_
    have q3 := (hpx.blk.keep hcY (fun h9 => by have := hY _ h9; omega))
    refine xd_take 8 (some 23) rfl rfl (by kernel_rfl) (v := (.int .i64 x₁.2.n)) (.inl ⟨rfl, fun W_ hW_ => ox_load (v := (.int .i64 x₁.2.n)) tA_3 rfl ((q3.keep hW_ (fun _h => h.own.ne_blk hpx.blk (by decide) _ _h rfl)).cell rfl) ⟨rfl, rfl⟩⟩) hS1 ?_
    refine xd_pure 9 (some 24) rfl rfl (by kernel_rfl) (v := (.pointer (some ⟨x₁.2.b, 0, none⟩))) (.inl ⟨rfl, fun W_ hW_ => ox_move (v := (.pointer (some ⟨x₁.2.b, 0, none⟩))) rfl ⟨rfl, rfl⟩⟩) ?_
    refine xd_pure 10 (some 25) rfl rfl (by kernel_rfl) (v := (.pointer (some ⟨x₁.2.b, 0, none⟩))) (.inl ⟨rfl, fun W_ hW_ => ox_nilCheck (p := ⟨x₁.2.b, 0, none⟩) rfl ⟨rfl, rfl⟩⟩) ?_
    refine xd_pure 11 (some 26) rfl rfl (by kernel_rfl) (v := (.pointer (some ⟨x₁.2.b, 4, none⟩))) (.inl ⟨rfl, fun W_ hW_ => ox_fieldAddr (b := x₁.2.b) (o := 0) tF_124_4 rfl ⟨rfl, rfl⟩⟩) ?_
    refine xd_pure 12 (some 27) rfl rfl (by kernel_rfl) (v := (.pointer (some ⟨x₁.2.b, 5, none⟩))) (.inl ⟨rfl, fun W_ hW_ => ox_fieldAddr (b := x₁.2.b) (o := 4) tF_84_1 rfl ⟨rfl, rfl⟩⟩) ?_
    have q4 := (hpx.blk.keep hcY (fun h9 => by have := hY _ h9; omega))
    refine xd_take 13 (some 28) rfl rfl (by kernel_rfl) (v := (.int .i64 x₁.2.lf.skip)) (.inl ⟨rfl, fun W_ hW_ => ox_load (v := (.int .i64 x₁.2.lf.skip)) tA_3 rfl ((q4.keep hW_ (fun _h => h.own.ne_blk hpx.blk (by decide) _ _h rfl)).cell rfl) ⟨rfl, rfl⟩⟩) hS1 ?_
    refine xd_pure 14 (some 29) rfl rfl (by kernel_rfl) (v := (.pointer (some ⟨x₁.2.b, 0, none⟩))) (.inl ⟨rfl, fun W_ hW_ => ox_move (v := (.pointer (some ⟨x₁.2.b, 0, none⟩))) rfl ⟨rfl, rfl⟩⟩) ?_
    refine xd_pure 15 (some 30) rfl rfl (by kernel_rfl) (v := (.pointer (some ⟨x₁.2.b, 0, none⟩))) (.inl ⟨rfl, fun W_ hW_ => ox_nilCheck (p := ⟨x₁.2.b, 0, none⟩) rfl ⟨rfl, rfl⟩⟩) ?_
    refine xd_pure 16 (some 31) rfl rfl (by kernel_rfl) (v := (.pointer (some ⟨x₁.2.b, 4, none⟩))) (.inl ⟨rfl, fun W_ hW_ => ox_fieldAddr (b := x₁.2.b) (o := 0) tF_124_4 rfl ⟨rfl, rfl⟩⟩) ?_
    refine xd_pure 17 (some 32) rfl rfl (by kernel_rfl) (v := (.pointer (some ⟨x₁.2.b, 6, none⟩))) (.inl ⟨rfl, fun W_ hW_ => ox_fieldAddr (b := x₁.2.b) (o := 4) tF_84_2 rfl ⟨rfl, rfl⟩⟩) ?_
    have q5 := (hpx.blk.keep hcY (fun h9 => by have := hY _ h9; omega))
    refine xd_take 18 (some 33) rfl rfl (by kernel_rfl) (v := (.int .i64 x₁.2.lf.len)) (.inl ⟨rfl, fun W_ hW_ => ox_load (v := (.int .i64 x₁.2.lf.len)) tA_3 rfl ((q5.keep hW_ (fun _h => h.own.ne_blk hpx.blk (by decide) _ _h rfl)).cell rfl) ⟨rfl, rfl⟩⟩) hS1 ?_
    refine xd_pure 19 (some 34) rfl rfl (by kernel_rfl) (v := (.pointer (some ⟨x₁.2.b, 0, none⟩))) (.inl ⟨rfl, fun W_ hW_ => ox_move (v := (.pointer (some ⟨x₁.2.b, 0, none⟩))) rfl ⟨rfl, rfl⟩⟩) ?_
    refine xd_pure 20 (some 35) rfl rfl (by kernel_rfl) (v := (.pointer (some ⟨x₁.2.b, 0, none⟩))) (.inl ⟨rfl, fun W_ hW_ => ox_nilCheck (p := ⟨x₁.2.b, 0, none⟩) rfl ⟨rfl, rfl⟩⟩) ?_
    refine xd_pure 21 (some 36) rfl rfl (by kernel_rfl) (v := (.pointer (some ⟨x₁.2.b, 8, none⟩))) (.inl ⟨rfl, fun W_ hW_ => ox_fieldAddr (b := x₁.2.b) (o := 0) tF_124_5 rfl ⟨rfl, rfl⟩⟩) ?_
    have q6 := (hpx.blk.keep hcY (fun h9 => by have := hY _ h9; omega))
    refine xd_take 22 (some 37) rfl rfl (by kernel_rfl) (v := (.slice ((x₁.2.ka.map fun k => ⟨k, 0, none⟩)) x₁.2.kids.length x₁.2.kc)) (.inl ⟨rfl, fun W_ hW_ => ox_load (v := (.slice ((x₁.2.ka.map fun k => ⟨k, 0, none⟩)) x₁.2.kids.length x₁.2.kc)) tA_28 rfl ((q6.keep hW_ (fun _h => h.own.ne_blk hpx.blk (by decide) _ _h rfl)).cell rfl) ⟨rfl, rfl⟩⟩) hS1 ?_
    refine xd_pure 23 (some 38) rfl rfl (by kernel_rfl) (v := (.int .i64 (((x₁.2.kids.length : Nat) : Int)))) (.inl ⟨rfl, fun W_ hW_ => ox_len (A := ((x₁.2.ka.map fun k => ⟨k, 0, none⟩))) (n := x₁.2.kids.length) (cp := x₁.2.kc) rfl tU_28 rfl ⟨rfl, rfl⟩⟩) ?_
    refine xd_pure 24 (some 39) rfl rfl (by kernel_rfl) (v := (.pointer (some ⟨x₁.2.b, 0, none⟩))) (.inl ⟨rfl, fun W_ hW_ => ox_move (v := (.pointer (some ⟨x₁.2.b, 0, none⟩))) rfl ⟨rfl, rfl⟩⟩) ?_
    refine xd_pure 25 (some 40) rfl rfl (by kernel_rfl) (v := (.pointer (some ⟨x₁.2.b, 0, none⟩))) (.inl ⟨rfl, fun W_ hW_ => ox_nilCheck (p := ⟨x₁.2.b, 0, none⟩) rfl ⟨rfl, rfl⟩⟩) ?_
    refine xd_pure 26 (some 41) rfl rfl (by kernel_rfl) (v := (.pointer (some ⟨x₁.2.b, 1, none⟩))) (.inl ⟨rfl, fun W_ hW_ => ox_fieldAddr (b := x₁.2.b) (o := 0) tF_124_1 rfl ⟨rfl, rfl⟩⟩) ?_
    have q7 := (hpx.blk.keep hcY (fun h9 => by have := hY _ h9; omega))
    refine xd_take 27 (some 42) rfl rfl (by kernel_rfl) (v := (.int .i64 x₁.2.id)) (.inl ⟨rfl, fun W_ hW_ => ox_load (v := (.int .i64 x₁.2.id)) tA_3 rfl ((q7.keep hW_ (fun _h => h.own.ne_blk hpx.blk (by decide) _ _h rfl)).cell rfl) ⟨rfl, rfl⟩⟩) hS1 ?_
    refine xd_pure 28 (some 43) rfl rfl (by kernel_rfl) (v := (.agg #[(.int .i64 x₁.2.kind), (.int .i64 x₁.2.n), (.int .i64 x₁.2.lf.skip), (.int .i64 x₁.2.lf.len), (.int .i64 (((x₁.2.kids.length : Nat) : Int))), (.int .i64 x₁.2.id)])) (.inl ⟨rfl, fun W_ hW_ => ox_mkStruct (ps := [(0, (.int .i64 x₁.2.kind)), (1, (.int .i64 x₁.2.n)), (2, (.int .i64 x₁.2.lf.skip)), (3, (.int .i64 x₁.2.lf.len)), (4, (.int .i64 (((x₁.2.kids.length : Nat) : Int)))), (5, (.int .i64 x₁.2.id))]) (cs := #[(.int .i64 x₁.2.kind), (.int .i64 x₁.2.n), (.int .i64 x₁.2.lf.skip), (.int .i64 x₁.2.lf.len), (.int .i64 (((x₁.2.kids.length : Nat) : Int))), (.int .i64 x₁.2.id)]) tZ_70 tP_70 rfl (by kernel_rfl) ⟨rfl, rfl⟩⟩) ?_
    refine xd_one 29 (some 44) rfl rfl (by kernel_rfl) rfl (ox_mkSlice (ps := [(0, (.agg #[(.int .i64 x₁.2.kind), (.int .i64 x₁.2.n), (.int .i64 x₁.2.lf.skip), (.int .i64 x₁.2.lf.len), (.int .i64 (((x₁.2.kids.length : Nat) : Int))), (.int .i64 x₁.2.id)]))]) (zs := #[(.int .i64 0), (.int .i64 0), (.int .i64 0), (.int .i64 0), (.int .i64 0), (.int .i64 0)]) (cs := #[(.int .i64 x₁.2.kind), (.int .i64 x₁.2.n), (.int .i64 x₁.2.lf.skip), (.int .i64 x₁.2.lf.len), (.int .i64 (((x₁.2.kids.length : Nat) : Int))), (.int .i64 x₁.2.id)]) tE_64 rfl (by decide) (by kernel_rfl) (by kernel_rfl) ?_)
    intro w6 e6 z5 b3
    replace b3 : Blk w6 w5.heap.size #[(.int .i64 x₁.2.kind), (.int .i64 x₁.2.n), (.int .i64 x₁.2.lf.skip), (.int .i64 x₁.2.lf.len), (.int .i64 (((x₁.2.kids.length : Nat) : Int))), (.int .i64 x₁.2.id)] 70 := b3
    have hS2 : Chg (fun x => ((.slice A pre₁.length c) : Value).ownBlock = some x) W2 w6 := Chg.ext hS1 e6
    refine ⟨.inr fun _ => hS2, ?_⟩
    have q8 := (h.own.keep hcY (fun _k _hk => (h.no _k _hk).1))
    refine xd_one 30 (some 45) rfl rfl (by kernel_rfl) rfl (ox_append (n := pre₁.length) (g := w5.heap.size) (o := 0) (m := 1) (xs := ((rwC (pre₁.map Prod.snd)))) (news := ([(.int .i64 x₁.2.kind), (.int .i64 x₁.2.n), (.int .i64 x₁.2.lf.skip), (.int .i64 x₁.2.lf.len), (.int .i64 (((x₁.2.kids.length : Nat) : Int))), (.int .i64 x₁.2.id)])) rfl tE_64 rfl (by decide) (v := (.slice A pre₁.length c)) rfl rfl ((q8.ext e5).ext e6) rfl b3.all rfl (by omega) (by omega) ?_)
    intro v1 w7 o2 e7 at1 nil1
    have he7 := e7.size
    obtain ⟨A1, c1, rfl, hc1⟩ := o2.shape
    have low1 : ∀ _k, (Value.slice A1 (pre₁.length + 1) c1).ownBlock = some _k → w.heap.size ≤ _k := fun _k _h => by rcases at1 with _e | _e <;> rw [_e] at _h; exact (fun _k _h => (h.no _k _h).2) _k _h; exact (by cases _h; omega)
    have hS3 : Chg (fun x => ((.slice A pre₁.length c) : Value).ownBlock = some x) W2 w7 := Chg.trans hS2 e7 (fun x hx hl => hx)
    refine ⟨.inr fun _ => hS3, ?_⟩
    have q9 := ((((h.blk.keep hcY h.ny).ext e5).ext e6).keep e7 (fun _h => ((q8.ext e5).ext e6).ne_blk (((h.blk.keep hcY h.ny).ext e5).ext e6) (by decide) _ _h rfl))
    refine xd_one 31 none rfl rfl (by kernel_rfl) rfl (ox_store (n := 1) (vs := [(.slice A1 (pre₁.length + 1) c1)]) tS_64 rfl (v := (.slice A1 (pre₁.length + 1) c1)) rfl rfl rfl rfl q9 (Nat.le_of_ble_eq_true rfl) ?_)
    intro w8 e8 z6 b4
    replace b4 : Blk w8 w1.heap.size #[(.slice A1 (pre₁.length + 1) c1)] 64 := b4
    refine ⟨.inl (by decide), ?_⟩
    refine xd_done (by kernel_rfl) ?_ _
    have hs2' := hcY.size
    have hs11 := e5.size
    have hs12 := e6.size
    have hs13 := e7.size
    have hs14 := e8.size
    have hM := (Chg.chg1 (Chg.trans (Chg.ext (Chg.ext (Chg.refl (fun b => W.heap.size ≤ b ∨ b = w1.heap.size ∨ (Value.slice A pre₁.length c).ownBlock = some b) W2) e5) e6) e7 (fun b hb hl => .inr (.inr hb))) e8 (.inl (by first | (right; left; rfl) | (left; omega))))
    have hq0 := b4
    have q10 := (o2.keep1 e8 (fun k hk => o2.ne_blk q9 (by decide) k hk))
    have hq1 := q10
    have hnew : ∀ k, (Value.slice A1 (pre₁.length + 1) c1).ownBlock = some k → ¬ Y k ∧ w.heap.size ≤ k := by
      intro k hk; rcases at1 with h9 | h9
      · rw [h9] at hk; exact h.no k hk
      · rw [h9] at hk; cases hk; exact ⟨fun hy => by have := (hY _ hy).2; omega, by have := h.chg.size; omega⟩
    have hMM : Mine w.heap.size Y W2 w8 := hM.mono fun b hl hb => by
      rcases hb with hb | hb | hb
      · exact ⟨fun hy => by have := (hY _ hy).2; omega, by have := h.chg.size; omega⟩
      · subst hb; exact ⟨h.ny, h.low⟩
      · exact h.no b hb
    have hln : (pre₁ ++ [x₁]).length = pre₁.length + 1 := by simp
    refine ⟨hMM, A1, c1, by rw [hln]; exact hq0, by rw [hln, List.map_append]; exact (rwC_snoc _ _).symm ▸ hq1, h.ny, by rw [hln]; exact hnew, h.low, ?_⟩
    exact Chg.trans (Chg.trans h.chg hcY fun b hb _ => (hY b hb).1) hMM fun b hb _ => hb.2
  · skip
    intro D Y W hD hY hYD hI hheap
    obtain ⟨A, c, h⟩ := hI
    refine xc_seq ?_
    refine xc_region ?_
    refine xl_op (P := Try.prog) (some 46) rfl rfl (ox_load (v := (.slice A ((walkT 0 root).length) c)) tA_64 rfl (h.blk.cell rfl) ?_)
    refine xl_op (P := Try.prog) (some 2) rfl rfl (ox_assign (v := (.slice A ((walkT 0 root).length) c)) rfl ?_)
    refine xl_nil ?_
    refine xc_ret ?_
    change leaves _ _ _ _ _ _ _
    refine leaves_marks [D] _ (fun D' hD' => by simp at hD'; subst hD'; exact hheap) (by simp) (fun w9 hc9 hs9 => ?_)
    refine leaves_nil (n := 47) (rs := [.tmp 2]) (vs := [(.slice A ((walkT 0 root).length) c)]) rfl ⟨⟨by decide, rfl⟩, trivial⟩ ?_
    have hwl := walk_len root
    have ho9 := h.own.keep hc9 (fun k hk hh => by simp at hh; subst hh; exact (h.no _ hk).1 hYD)
    have hn9 := h.no
    rw [walk_nodes, hwl] at ho9
    rw [hwl] at hn9
    exact ⟨A, c, by rw [hwl]; rfl, ho9, fun k hk => (hn9 k hk).2, Chg.trans (Chg.trans (Chg.refl (fun _ => False) w) (h.chg.mono fun b hl h => by omega) fun b h _ => h) hc9 fun b hb hl => by simp at hb; subst hb; omega⟩
  · skip
    intro D Y c pre W hD hY hYD hpre hI hheap; exact hI.elim

theorem numbers_calls (stv : Value) (root : T) (w : World) (hP : PN stv w root) (hW : WF root) (hsz : sz root ≤ 4194304) :
    Calls Try.prog 38 #[(.pointer (some ⟨root.b, 0, none⟩))] w (Ret (fun v w' => ∃ A c, v = .slice A (nodes root).length c ∧ Vx.Own w' 3 1 (.slice A (nodes root).length c) (nodes root).length ((nodes root).map fun t => .int .i64 t.id) ∧ (∀ k, (Value.slice A (nodes root).length c).ownBlock = some k → w.heap.size ≤ k) ∧ Ext w w')) := by
  refine calls_xc (n := 23) (f := fun s_ => [(.pointer (some ⟨root.b, 0, none⟩))].getD s_ undef) Try.func38 rfl rfl (by simp) (fun s_ => by simp) ?_
  refine xc_seq ?_
  refine xc_region ?_
  refine xl_op (P := Try.prog) (some 2) rfl rfl (ox_assign (v := (.slice none 0 0)) rfl ?_)
  refine xl_nil ?_
  refine xc_seq ?_
  refine xc_region ?_
  refine xl_op (P := Try.prog) (some 3) rfl rfl (ox_assign (v := (.slice none 0 0)) rfl ?_)
  refine xl_nil ?_
  refine xc_seq ?_
  refine xc_region ?_
  refine xl_op (P := Try.prog) (some 6) rfl rfl (ox_move (v := (.pointer (some ⟨root.b, 0, none⟩))) rfl ?_)
  refine xl_op (P := Try.prog) (some 7) rfl rfl (ox_callE (al := [(.pointer (some ⟨root.b, 0, none⟩))]) pf_26 rfl (ret_mono (rows_calls stv root w (hP.ext (Chg.refl _ _)) hW hsz) ?_))
  rintro _ w1 ⟨Ar, cr, rfl, hor, hlr, e1⟩
  have he1 := e1.size
  have hnl : (nodes root).length ≤ 4194304 := by have := nodes_len root; omega
  refine xl_op (P := Try.prog) (some 4) rfl rfl (ox_assign (v := (.slice Ar ((nodes root).length) cr)) rfl ?_)
  refine xl_nil ?_
  refine xc_seq ?_
  refine xc_seq ?_
  refine xc_region ?_
  refine xl_op (P := Try.prog) (some 5) rfl rfl (ox_assign (v := (.int .i64 0)) rfl ?_)
  refine xl_nil ?_
  refine xc_block ?_
  have hEw := e1
  have hEz := hEw.size
  refine xc_loopN (fun m f W => ∃ (i : Nat) (Ai : Option Addr) (ci : Nat), m = (nodes root).length - i ∧ i ≤ (nodes root).length ∧ f 3 = (.slice Ai i ci) ∧ f 4 = (.slice Ar ((nodes root).length) cr) ∧ f 5 = (.int .i64 ((i : Nat))) ∧ Vx.Own W 3 1 (.slice Ai i ci) i (((nodes root).take i).map fun t => .int .i64 t.id) ∧ (∀ k, ((.slice Ai i ci) : Value).ownBlock = some k → w1.heap.size ≤ k) ∧ Ext w1 W) ((nodes root).length) ?_ ?_
  · exact ⟨0, none, 0, by omega, by omega, rfl, rfl, (by first | exact rfl | exact (congrArg (Value.int .i64) (by omega))), (Vx.Own.nil _ _ _), (by simp [Value.ownBlock]), (Chg.refl _ _)⟩
  · rintro m f1 w2 ⟨i, Ai, ci, hm, hi, g3_f1, g4_f1, g5_f1, o_f1, lo_f1, e_f1⟩
    have hzE := e_f1.size
    refine xc_seq ?_
    refine xc_seq ?_
    refine xc_region ?_
    refine xl_op (P := Try.prog) (some 8) rfl rfl (ox_move (v := (.int .i64 ((i : Nat)))) g5_f1 ?_)
    refine xl_op (P := Try.prog) (some 9) rfl rfl (ox_move (v := (.slice Ar ((nodes root).length) cr)) g4_f1 ?_)
    refine xl_op (P := Try.prog) (some 10) rfl rfl (ox_len (A := Ar) (n := ((nodes root).length)) (cp := cr) rfl tU_64 rfl ?_)
    refine xl_op (P := Try.prog) (some 11) rfl rfl (ox_lss (k := .i64) (a := ((i : Nat))) (b := ((((nodes root).length : Nat) : Int))) rfl rfl ?_)
    refine xl_nil ?_
    refine xc_if (p := ((i : Nat) : Int) < ((((nodes root).length : Nat) : Int))) rfl (fun h1 => ?_) (fun h1 => ?_)
    · skip
      have hil : i < (nodes root).length := by omega
      obtain ⟨u, hu⟩ := get_ex (l := nodes root) (i := i) hil
      obtain ⟨gr, cr9, heqr, _⟩ := hor.some_of (by omega)
      simp only [Value.slice.injEq, true_and] at heqr
      obtain ⟨rfl, rfl⟩ := heqr
      have hcu : CellsL w1 gr (i * 6) (rowC u) := hor.cells (flat_get rowC 6 (fun _ => rfl) hu)
      refine xc_skip ?_
      refine xc_seq ?_
      refine xc_block ?_
      refine xc_region ?_
      refine xl_op (P := Try.prog) (some 14) rfl rfl (ox_move (v := (.slice Ai i ci)) g3_f1 ?_)
      refine xl_op (P := Try.prog) (some 15) rfl rfl (ox_move (v := (.slice (some ⟨gr, 0, none⟩) ((nodes root).length) cr)) g4_f1 ?_)
      refine xl_op (P := Try.prog) (some 16) rfl rfl (ox_move (v := (.int .i64 ((i : Nat)))) g5_f1 ?_)
      refine xl_op (P := Try.prog) (some 17) rfl rfl (ox_indexAddr (b := gr) (o := 0) (i := ((i : Nat))) tE_64 rfl rfl (by omega) (by omega) ?_)
      refine xl_op (P := Try.prog) (some 18) rfl rfl (ox_fieldAddr (b := gr) (o := (0 + ((i : Nat) : Int).toNat * 6)) tF_70_5 rfl ?_)
      refine xl_op (P := Try.prog) (some 19) rfl rfl (ox_load (v := (.int .i64 u.id)) tA_3 rfl (by simpa using (CellsL.keep e_f1 not_false hcu).2.2.2.2.2.1) ?_)
      refine xl_op (P := Try.prog) (some 20) rfl rfl (ox_mkSlice (ps := [(0, (.int .i64 u.id))]) (zs := #[(.int .i64 0)]) (cs := #[(.int .i64 u.id)]) tE_42 rfl (by decide) (by kernel_rfl) (by kernel_rfl) ?_)
      intro w3 e2 z1 b1
      replace b1 : Blk w3 w2.heap.size #[(.int .i64 u.id)] 3 := b1
      refine xl_op (P := Try.prog) (some 21) rfl rfl (ox_append (n := i) (g := w2.heap.size) (o := 0) (m := 1) (xs := ((((nodes root).take i).map fun t => .int .i64 t.id))) (news := ([(.int .i64 u.id)])) rfl tE_42 rfl (by decide) (v := (.slice Ai i ci)) rfl rfl (o_f1.ext e2) rfl b1.all rfl (by omega) (by omega) ?_)
      intro v1 w4 o1 e3 at1 nil1
      have he3 := e3.size
      obtain ⟨A1, c1, rfl, hc1⟩ := o1.shape
      have low1 : ∀ _k, (Value.slice A1 (i + 1) c1).ownBlock = some _k → w1.heap.size ≤ _k := fun _k _h => by rcases at1 with _e | _e <;> rw [_e] at _h; exact lo_f1 _k _h; exact (by cases _h; omega)
      refine xl_op (P := Try.prog) (some 3) rfl rfl (ox_assign (v := (.slice A1 (i + 1) c1)) rfl ?_)
      refine xl_nil ?_
      refine xc_region ?_
      refine xl_op (P := Try.prog) (some 12) rfl rfl (ox_move (v := (.int .i64 ((i : Nat)))) g5_f1 ?_)
      refine xl_op (P := Try.prog) (some 13) rfl rfl (ox_add64 (a := ((i : Nat))) (b := 1) rfl rfl (by omega) ?_)
      refine xl_op (P := Try.prog) (some 5) rfl rfl (ox_assign (v := (.int .i64 ((i : Nat) + 1))) rfl ?_)
      refine xl_nil ?_
      have ho9 := o1
      have hsz0 := e2.size
      have hsz1 := e3.size
      have htk : (nodes root).take (i + 1) = (nodes root).take i ++ [u] := take_succ' hu
      exact ⟨rfl, (nodes root).length - (i + 1), by omega, i + 1, A1, c1, by omega, by omega, rfl, g4_f1, (by first | exact rfl | exact (congrArg (Value.int .i64) (by omega))), (by rw [htk, List.map_append]; exact ho9), (fun k hk => low1 k (ownBlock_len hk)), (Chg.trans (Ext.trans e_f1 e2) e3 (fun b hb hl => absurd hl (by have := lo_f1 b hb; omega)))⟩
    · skip
      have hie : i = (nodes root).length := by omega
      refine xc_exit ?_
      refine xc_seq ?_
      refine xc_region ?_
      refine xl_op (P := Try.prog) (some 22) rfl rfl (ox_move (v := (.slice Ai i ci)) g3_f1 ?_)
      refine xl_op (P := Try.prog) (some 2) rfl rfl (ox_assign (v := (.slice Ai i ci)) rfl ?_)
      refine xl_nil ?_
      refine xc_ret ?_
      change leaves _ _ _ _ _ _ _
      refine leaves_nil (n := 23) (rs := [.tmp 2]) (vs := [(.slice Ai i ci)]) rfl ⟨⟨by decide, rfl⟩, trivial⟩ ?_
      exact ⟨Ai, ci, by rw [hie]; rfl, by have h9 := o_f1; rw [hie, List.take_length] at h9; exact h9, fun k hk => by have h8 := lo_f1 k (ownBlock_len hk); omega, (Ext.trans hEw e_f1)⟩

theorem has_calls (l : List Int) (A : Option Addr) (c : Nat) (n : Int) (w : World) (hA : RowA w A (l.map fun i => .int .i64 i)) (hn : l.length ≤ 4611686018427387904) :
    Calls Try.prog 39 #[(.slice A l.length c), (.int .i64 n)] w (Ret (fun v w' => v = .bool (decide (n ∈ l)) ∧ w = w')) := by
  refine calls_xc (n := 18) (f := fun s_ => [(.slice A l.length c), (.int .i64 n)].getD s_ undef) Try.func39 rfl rfl (by simp) (fun s_ => by simp) ?_
  refine xc_seq ?_
  refine xc_region ?_
  refine xl_op (P := Try.prog) (some 4) rfl rfl (ox_assign (v := (.bool false)) rfl ?_)
  refine xl_nil ?_
  refine xc_seq ?_
  refine xc_seq ?_
  refine xc_region ?_
  refine xl_op (P := Try.prog) (some 5) rfl rfl (ox_assign (v := (.int .i64 0)) rfl ?_)
  refine xl_nil ?_
  refine xc_block ?_
  refine xc_loopN (fun m f W => ∃ (i : Nat), m = l.length - i ∧ i ≤ l.length ∧ ¬ n ∈ l.take i ∧ f 0 = (.slice A l.length c) ∧ f 1 = (.int .i64 n) ∧ f 5 = (.int .i64 ((i : Nat))) ∧ w = W) (l.length) ?_ ?_
  · exact ⟨0, by omega, by omega, by simp, rfl, rfl, (by first | exact rfl | exact (congrArg (Value.int .i64) (by omega))), rfl⟩
  · rintro m f1 w1 ⟨i, hm, hi, hno, g0_f1, g1_f1, g5_f1, e_f1⟩
    subst e_f1
    refine xc_seq ?_
    refine xc_seq ?_
    refine xc_region ?_
    refine xl_op (P := Try.prog) (some 6) rfl rfl (ox_move (v := (.int .i64 ((i : Nat)))) g5_f1 ?_)
    refine xl_op (P := Try.prog) (some 7) rfl rfl (ox_move (v := (.slice A l.length c)) g0_f1 ?_)
    refine xl_op (P := Try.prog) (some 8) rfl rfl (ox_len (A := A) (n := l.length) (cp := c) rfl tU_42 rfl ?_)
    refine xl_op (P := Try.prog) (some 9) rfl rfl (ox_lss (k := .i64) (a := ((i : Nat))) (b := (((l.length : Nat) : Int))) rfl rfl ?_)
    refine xl_nil ?_
    refine xc_if (p := ((i : Nat) : Int) < (((l.length : Nat) : Int))) rfl (fun h1 => ?_) (fun h1 => ?_)
    · skip
      have hil : i < l.length := by omega
      obtain ⟨x, hx⟩ := get_ex (l := l) (i := i) hil
      obtain ⟨g, o, rfl⟩ := hA.ex (by intro hh; cases l with | nil => simp at hx | cons q l => simp at hh)
      have hcx : w.cell? ⟨g, o + i, none⟩ = some (.int .i64 x) := cellsL_get hA.cells (by simp [hx])
      refine xc_skip ?_
      refine xc_seq ?_
      refine xc_block ?_
      refine xc_seq ?_
      refine xc_region ?_
      refine xl_op (P := Try.prog) (some 12) rfl rfl (ox_move (v := (.slice (some ⟨g, o, none⟩) l.length c)) g0_f1 ?_)
      refine xl_op (P := Try.prog) (some 13) rfl rfl (ox_move (v := (.int .i64 ((i : Nat)))) g5_f1 ?_)
      refine xl_op (P := Try.prog) (some 14) rfl rfl (ox_indexAddr (b := g) (o := o) (i := ((i : Nat))) tE_42 rfl rfl (by omega) (by omega) ?_)
      refine xl_op (P := Try.prog) (some 15) rfl rfl (ox_load (v := (.int .i64 x)) tA_3 rfl (by simpa using hcx) ?_)
      refine xl_op (P := Try.prog) (some 16) rfl rfl (ox_move (v := (.int .i64 n)) g1_f1 ?_)
      refine xl_op (P := Try.prog) (some 17) rfl rfl (ox_eql (k := .i64) (a := x) (b := n) rfl rfl ?_)
      refine xl_nil ?_
      refine xc_if (p := (x : Int) = n) rfl (fun h2 => ?_) (fun h2 => ?_)
      · skip
        refine xc_seq ?_
        refine xc_region ?_
        refine xl_op (P := Try.prog) (some 4) rfl rfl (ox_assign (v := (.bool true)) rfl ?_)
        refine xl_nil ?_
        refine xc_ret ?_
        change leaves _ _ _ _ _ _ _
        refine leaves_nil (n := 18) (rs := [.tmp 4]) (vs := [(.bool true)]) rfl ⟨⟨by decide, rfl⟩, trivial⟩ ?_
        exact ⟨congrArg Value.bool (decide_eq_true (h2 ▸ List.mem_of_getElem? hx)).symm, rfl⟩
      · skip
        refine xc_skip ?_
        refine xc_region ?_
        refine xl_op (P := Try.prog) (some 10) rfl rfl (ox_move (v := (.int .i64 ((i : Nat)))) g5_f1 ?_)
        refine xl_op (P := Try.prog) (some 11) rfl rfl (ox_add64 (a := ((i : Nat))) (b := 1) rfl rfl (by omega) ?_)
        refine xl_op (P := Try.prog) (some 5) rfl rfl (ox_assign (v := (.int .i64 ((i : Nat) + 1))) rfl ?_)
        refine xl_nil ?_
        exact ⟨rfl, l.length - (i + 1), by omega, i + 1, by omega, by omega, by rw [take_succ' hx]; simp; exact ⟨hno, fun h => h2 h.symm⟩, g0_f1, g1_f1, (by first | exact rfl | exact (congrArg (Value.int .i64) (by omega))), rfl⟩
    · skip
      refine xc_exit ?_
      refine xc_seq ?_
      refine xc_region ?_
      refine xl_op (P := Try.prog) (some 4) rfl rfl (ox_assign (v := (.bool false)) rfl ?_)
      refine xl_nil ?_
      refine xc_ret ?_
      change leaves _ _ _ _ _ _ _
      refine leaves_nil (n := 18) (rs := [.tmp 4]) (vs := [(.bool false)]) rfl ⟨⟨by decide, rfl⟩, trivial⟩ ?_
      exact ⟨congrArg Value.bool (decide_eq_false (by rw [List.take_of_length_le (by omega)] at hno; exact hno)).symm, rfl⟩

theorem rowsE_calls (ta tb : List T) (A B : Option Addr) (ca cb : Nat) (w : World) (hA : RowA w A (rwC ta)) (hB : RowA w B (rwC tb)) (hl : ta.length = tb.length) (hn : ta.length ≤ 4194304) (hE : ∀ (i : Nat) x y, ta[i]? = some x → tb[i]? = some y → rowE x y) :
    Calls Try.prog 29 #[(.slice A ta.length ca), (.slice B tb.length cb)] w (Ret (fun v w' => v = .bool true ∧ Ext w w')) := by
  refine calls_xc (n := 34) (f := fun s_ => [(.slice A ta.length ca), (.slice B tb.length cb)].getD s_ undef) Try.func29 rfl rfl (by simp) (fun s_ => by simp) ?_
  refine xc_seq ?_
  refine xc_region ?_
  refine xl_op (P := Try.prog) (some 4) rfl rfl (ox_assign (v := (.bool false)) rfl ?_)
  refine xl_nil ?_
  refine xc_seq ?_
  refine xc_seq ?_
  refine xc_region ?_
  refine xl_op (P := Try.prog) (some 7) rfl rfl (ox_move (v := (.slice A ta.length ca)) rfl ?_)
  refine xl_op (P := Try.prog) (some 8) rfl rfl (ox_len (A := A) (n := ta.length) (cp := ca) rfl tU_64 rfl ?_)
  refine xl_op (P := Try.prog) (some 9) rfl rfl (ox_move (v := (.slice B tb.length cb)) rfl ?_)
  refine xl_op (P := Try.prog) (some 10) rfl rfl (ox_len (A := B) (n := tb.length) (cp := cb) rfl tU_64 rfl ?_)
  refine xl_op (P := Try.prog) (some 11) rfl rfl (ox_neq (k := .i64) (a := (((ta.length : Nat) : Int))) (b := (((tb.length : Nat) : Int))) rfl rfl ?_)
  refine xl_nil ?_
  refine xc_if (p := (((ta.length : Nat) : Int) : Int) ≠ (((tb.length : Nat) : Int))) rfl (fun h1 => ?_) (fun h1 => ?_)
  · skip
    exfalso; omega
  · skip
    refine xc_skip ?_
    refine xc_seq ?_
    refine xc_seq ?_
    refine xc_region ?_
    refine xl_op (P := Try.prog) (some 5) rfl rfl (ox_assign (v := (.int .i64 0)) rfl ?_)
    refine xl_nil ?_
    refine xc_block ?_
    refine xc_loopN (fun m f W => ∃ (i : Nat), m = ta.length - i ∧ i ≤ ta.length ∧ f 0 = (.slice A ta.length ca) ∧ f 1 = (.slice B tb.length cb) ∧ f 5 = (.int .i64 ((i : Nat))) ∧ Ext w W) (ta.length) ?_ ?_
    · exact ⟨0, by omega, by omega, rfl, rfl, (by first | exact rfl | exact (congrArg (Value.int .i64) (by omega))), (Chg.refl _ _)⟩
    · rintro m f1 w1 ⟨i, hm, hi, g0_f1, g1_f1, g5_f1, e_f1⟩
      have hzE := e_f1.size
      refine xc_seq ?_
      refine xc_seq ?_
      refine xc_region ?_
      refine xl_op (P := Try.prog) (some 12) rfl rfl (ox_move (v := (.int .i64 ((i : Nat)))) g5_f1 ?_)
      refine xl_op (P := Try.prog) (some 13) rfl rfl (ox_move (v := (.slice A ta.length ca)) g0_f1 ?_)
      refine xl_op (P := Try.prog) (some 14) rfl rfl (ox_len (A := A) (n := ta.length) (cp := ca) rfl tU_64 rfl ?_)
      refine xl_op (P := Try.prog) (some 15) rfl rfl (ox_lss (k := .i64) (a := ((i : Nat))) (b := (((ta.length : Nat) : Int))) rfl rfl ?_)
      refine xl_nil ?_
      refine xc_if (p := ((i : Nat) : Int) < (((ta.length : Nat) : Int))) rfl (fun h2 => ?_) (fun h2 => ?_)
      · skip
        have hil : i < ta.length := by omega
        obtain ⟨x, hx⟩ := get_ex (l := ta) (i := i) hil
        obtain ⟨y, hy⟩ := get_ex (l := tb) (i := i) (by omega)
        have hxy := hE i x y hx hy
        obtain ⟨g1, o1, rfl⟩ := hA.ex (by intro hh; cases ta with | nil => simp at hx | cons q l => simp [rwC, rowC] at hh)
        have hcx : CellsL w g1 (o1 + i * 6) (rowC x) := cellsL_flat rowC 6 (fun _ => rfl) hA.cells hx
        obtain ⟨g2, o2, rfl⟩ := hB.ex (by intro hh; cases tb with | nil => simp at hy | cons q l => simp [rwC, rowC] at hh)
        have hcy : CellsL w g2 (o2 + i * 6) (rowC y) := cellsL_flat rowC 6 (fun _ => rfl) hB.cells hy
        rw [hxy.cs] at hcy
        refine xc_skip ?_
        refine xc_seq ?_
        refine xc_block ?_
        refine xc_seq ?_
        refine xc_region ?_
        refine xl_op (P := Try.prog) (some 18) rfl rfl (ox_move (v := (.slice (some ⟨g1, o1, none⟩) ta.length ca)) g0_f1 ?_)
        refine xl_op (P := Try.prog) (some 19) rfl rfl (ox_move (v := (.int .i64 ((i : Nat)))) g5_f1 ?_)
        refine xl_op (P := Try.prog) (some 20) rfl rfl (ox_indexAddr (b := g1) (o := o1) (i := ((i : Nat))) tE_64 rfl rfl (by omega) (by omega) ?_)
        refine xl_op (P := Try.prog) (some 21) rfl rfl (ox_loadN (vs := [(.int .i64 x.kind), (.int .i64 x.n), (.int .i64 x.lf.skip), (.int .i64 x.lf.len), (.int .i64 ((x.kids.length : Nat))), (.int .i64 x.id)]) tA_70 tS_70 rfl rfl (by simpa [rowC] using (CellsL.keep e_f1 not_false hcx)) ?_)
        refine xl_op (P := Try.prog) (some 6) rfl rfl (ox_alloc tZ_70 ?_)
        intro w2 e1 z1 b1
        replace b1 : Blk w2 w1.heap.size #[(.int .i64 0), (.int .i64 0), (.int .i64 0), (.int .i64 0), (.int .i64 0), (.int .i64 0)] 70 := b1
        refine xl_op (P := Try.prog) none rfl rfl (ox_store (n := 6) (vs := [(.int .i64 x.kind), (.int .i64 x.n), (.int .i64 x.lf.skip), (.int .i64 x.lf.len), (.int .i64 ((x.kids.length : Nat))), (.int .i64 x.id)]) tS_70 rfl (v := (.agg #[(.int .i64 x.kind), (.int .i64 x.n), (.int .i64 x.lf.skip), (.int .i64 x.lf.len), (.int .i64 ((x.kids.length : Nat))), (.int .i64 x.id)])) rfl rfl rfl rfl b1 (Nat.le_of_ble_eq_true rfl) ?_)
        intro w3 e2 z2 b2
        replace b2 : Blk w3 w1.heap.size #[(.int .i64 x.kind), (.int .i64 x.n), (.int .i64 x.lf.skip), (.int .i64 x.lf.len), (.int .i64 ((x.kids.length : Nat))), (.int .i64 x.id)] 70 := blk_full b2 rfl
        refine xl_nil ?_
        refine xc_seq ?_
        refine xc_region ?_
        refine xl_op (P := Try.prog) (some 22) rfl rfl (ox_move (v := (.slice (some ⟨g2, o2, none⟩) tb.length cb)) g1_f1 ?_)
        refine xl_op (P := Try.prog) (some 23) rfl rfl (ox_move (v := (.int .i64 ((i : Nat)))) g5_f1 ?_)
        refine xl_op (P := Try.prog) (some 24) rfl rfl (ox_indexAddr (b := g2) (o := o2) (i := ((i : Nat))) tE_64 rfl rfl (by omega) (by omega) ?_)
        refine xl_op (P := Try.prog) (some 25) rfl rfl (ox_fieldAddr (b := g2) (o := (o2 + i * 6)) tF_70_5 rfl ?_)
        refine xl_op (P := Try.prog) (some 26) rfl rfl (ox_load (v := (.int .i64 y.id)) tA_3 rfl (by simpa using (CellsL.keep (Ext.chg1 (Ext.trans e_f1 e1) e2 (by omega)) not_false hcy).2.2.2.2.2.1) ?_)
        refine xl_op (P := Try.prog) (some 27) rfl rfl (ox_fieldAddr (b := w1.heap.size) (o := 0) tF_70_5 rfl ?_)
        refine xl_op (P := Try.prog) none rfl rfl (ox_store (n := 1) (vs := [(.int .i64 y.id)]) tS_3 rfl (v := (.int .i64 y.id)) rfl rfl rfl rfl b2 (Nat.le_of_ble_eq_true rfl) ?_)
        intro w4 e3 z3 b3
        replace b3 : Blk w4 w1.heap.size #[(.int .i64 x.kind), (.int .i64 x.n), (.int .i64 x.lf.skip), (.int .i64 x.lf.len), (.int .i64 ((x.kids.length : Nat))), (.int .i64 y.id)] 70 := b3
        refine xl_nil ?_
        refine xc_seq ?_
        refine xc_regionE [] (fun W_ => Chg (fun _ => False) w4 W_) hmix ?_
        intro w5 e4 z4
        have hS1 : Chg (fun _ => False) w4 w5 := Ext.to e4
        refine xd_take 0 (some 28) rfl rfl (by kernel_rfl) (v := (.agg #[(.int .i64 x.kind), (.int .i64 x.n), (.int .i64 x.lf.skip), (.int .i64 x.lf.len), (.int .i64 ((x.kids.length : Nat))), (.int .i64 y.id)])) (.inl ⟨rfl, fun W_ hW_ => ox_loadN (vs := [(.int .i64 x.kind), (.int .i64 x.n), (.int .i64 x.lf.skip), (.int .i64 x.lf.len), (.int .i64 ((x.kids.length : Nat))), (.int .i64 y.id)]) tA_70 tS_70 rfl rfl ⟨(b3.ext hW_).cell rfl, (b3.ext hW_).cell rfl, (b3.ext hW_).cell rfl, (b3.ext hW_).cell rfl, (b3.ext hW_).cell rfl, (b3.ext hW_).cell rfl, trivial⟩ ⟨rfl, rfl⟩⟩) hS1 ?_
        refine xd_pure 1 (some 29) rfl rfl (by kernel_rfl) (v := (.slice (some ⟨g2, o2, none⟩) tb.length cb)) (.inl ⟨rfl, fun W_ hW_ => ox_move (v := (.slice (some ⟨g2, o2, none⟩) tb.length cb)) g1_f1 ⟨rfl, rfl⟩⟩) ?_
        refine xd_pure 2 (some 30) rfl rfl (by kernel_rfl) (v := (.int .i64 ((i : Nat)))) (.inl ⟨rfl, fun W_ hW_ => ox_move (v := (.int .i64 ((i : Nat)))) g5_f1 ⟨rfl, rfl⟩⟩) ?_
        refine xd_pure 3 (some 31) rfl rfl (by kernel_rfl) (v := (.pointer (some ⟨g2, o2 + i * 6, none⟩))) (.inl ⟨rfl, fun W_ hW_ => ox_indexAddr (b := g2) (o := o2) (i := ((i : Nat))) tE_64 rfl rfl (by omega) (by omega) ⟨rfl, rfl⟩⟩) ?_
        refine xd_take 4 (some 32) rfl rfl (by kernel_rfl) (v := (.agg #[(.int .i64 x.kind), (.int .i64 x.n), (.int .i64 x.lf.skip), (.int .i64 x.lf.len), (.int .i64 ((x.kids.length : Nat))), (.int .i64 y.id)])) (.inl ⟨rfl, fun W_ hW_ => ox_loadN (vs := [(.int .i64 x.kind), (.int .i64 x.n), (.int .i64 x.lf.skip), (.int .i64 x.lf.len), (.int .i64 ((x.kids.length : Nat))), (.int .i64 y.id)]) tA_70 tS_70 rfl rfl (CellsL.keep (Ext.trans (Ext.chg1 (Ext.chg1 (Ext.trans e_f1 e1) e2 (by omega)) e3 (by omega)) hW_) not_false hcy) ⟨rfl, rfl⟩⟩) hS1 ?_
        refine xd_pure 5 (some 33) rfl rfl (by kernel_rfl) (v := (.bool (!decide (((x.kind : Int) = x.kind ∧ (x.n : Int) = x.n ∧ (x.lf.skip : Int) = x.lf.skip ∧ (x.lf.len : Int) = x.lf.len ∧ ((x.kids.length : Nat) : Int) = ((x.kids.length : Nat)) ∧ (y.id : Int) = y.id))))) (.inl ⟨rfl, fun W_ hW_ => ox_neqF (xs := [(.int .i64 x.kind), (.int .i64 x.n), (.int .i64 x.lf.skip), (.int .i64 x.lf.len), (.int .i64 ((x.kids.length : Nat))), (.int .i64 y.id)]) (ys := [(.int .i64 x.kind), (.int .i64 x.n), (.int .i64 x.lf.skip), (.int .i64 x.lf.len), (.int .i64 ((x.kids.length : Nat))), (.int .i64 y.id)]) (p := ((x.kind : Int) = x.kind ∧ (x.n : Int) = x.n ∧ (x.lf.skip : Int) = x.lf.skip ∧ (x.lf.len : Int) = x.lf.len ∧ ((x.kids.length : Nat) : Int) = ((x.kids.length : Nat)) ∧ (y.id : Int) = y.id)) fS_70 rfl rfl rfl rfl (by simp) ⟨rfl, rfl⟩⟩) ?_
        refine xd_done (by kernel_rfl) ?_ _
        refine xc_cond_f (congrArg Value.bool (by simp : (!decide (((x.kind : Int) = x.kind ∧ (x.n : Int) = x.n ∧ (x.lf.skip : Int) = x.lf.skip ∧ (x.lf.len : Int) = x.lf.len ∧ ((x.kids.length : Nat) : Int) = ((x.kids.length : Nat)) ∧ (y.id : Int) = y.id))) = false)) ?_
        refine xc_skip ?_
        refine xc_region ?_
        refine xl_op (P := Try.prog) (some 16) rfl rfl (ox_move (v := (.int .i64 ((i : Nat)))) g5_f1 ?_)
        refine xl_op (P := Try.prog) (some 17) rfl rfl (ox_add64 (a := ((i : Nat))) (b := 1) rfl rfl (by omega) ?_)
        refine xl_op (P := Try.prog) (some 5) rfl rfl (ox_assign (v := (.int .i64 ((i : Nat) + 1))) rfl ?_)
        refine xl_nil ?_
        have hsz0 := e1.size
        have hsz1 := e2.size
        have hsz2 := e3.size
        have hsz3 := e4.size
        exact ⟨rfl, ta.length - (i + 1), by omega, i + 1, by omega, by omega, g0_f1, g1_f1, (by first | exact rfl | exact (congrArg (Value.int .i64) (by omega))), (Ext.trans (Ext.chg1 (Ext.chg1 (Ext.trans e_f1 e1) e2 (by omega)) e3 (by omega)) e4)⟩
      · skip
        refine xc_exit ?_
        refine xc_seq ?_
        refine xc_region ?_
        refine xl_op (P := Try.prog) (some 4) rfl rfl (ox_assign (v := (.bool true)) rfl ?_)
        refine xl_nil ?_
        refine xc_ret ?_
        change leaves _ _ _ _ _ _ _
        refine leaves_nil (n := 34) (rs := [.tmp 4]) (vs := [(.bool true)]) rfl ⟨⟨by decide, rfl⟩, trivial⟩ ?_
        exact ⟨rfl, e_f1⟩

end Go.Proofs.Ythhbnodnpajljaa
