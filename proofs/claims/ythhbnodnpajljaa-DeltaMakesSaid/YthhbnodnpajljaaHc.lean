/-
  Comparing a node with the document's. No conditions.
-/
import Derived.Test.YthhbnodnpajljaaVxi
import Derived.Test.YthhbnodnpajljaaRows
import Derived.Test.YthhbnodnpajljaaHb
import Derived.Test.YthhbnodnpajljaaDb
set_option linter.unusedVariables false
set_option linter.unusedSimpArgs false
set_option maxRecDepth 100000
set_option maxHeartbeats 4000000
namespace Go.Proofs.Ythhbnodnpajljaa
open Go Go.RowKit Go.Vx

theorem skz_skel_parts {mm : Int} {t u : T} (h : skz mm t = skel u) : t.kind = u.kind ∧ t.n = u.n ∧ t.lf = u.lf ∧ t.kids.length = u.kids.length ∧ u.id = (if t.id ≤ mm then t.id else 0) ∧ ∀ (i : Nat) (k v : T), t.kids[i]? = some k → u.kids[i]? = some v → skz mm k = skel v := by
  obtain ⟨b, ka, kc, id, kind, n, lf, kids⟩ := t
  obtain ⟨b', ka', kc', id', kind', n', lf', kids'⟩ := u
  simp only [skz, skel, T.mk.injEq, skzL_map, skelL_map, true_and] at h
  obtain ⟨h1, h2, h3, h4, h5⟩ := h
  refine ⟨h2, h3, h4, ?_, h1.symm, fun i k v hk hv => ?_⟩
  · have := congrArg List.length h5; simpa [T.kids] using this
  · have := congrArg (·[i]?) h5
    simp only [T.kids] at hk hv
    simpa [hk, hv] using this
theorem ox_neqBool {P : Program} {ρ : Operand → Value} {w : World} {K : Value → World → Prop} {dst : Option Tmp} {ty : TypeId} {pos : String} {af : Array Edge} {gd : Option (Nat × Bool)} {x y : Operand} {t u : TypeId} {a b : Bool} (hu : P.underlying t = some .bool) (hx : ρ x = .bool a) (hy : ρ y = .bool b) (h : K (.bool (a != b)) w) : OpX P ⟨dst, .binOp .neq t x y u, ty, pos, af, gd⟩ ρ w K :=
  have he : (Op.equal t (.bool a) (.bool b)).run P w = .ok (a == b) w := run_equalIn_bool' w 9999 t a b hu
  ox_val (v := .bool (a != b)) (w' := w) (by simp [execOp, hx, hy, eqGuard, binOp, Sem.run_bind, he, Result.andThen, bne]) h
theorem pf_37 : plainF Try.prog 37 = true := by kernel_rfl
theorem pf_51 : plainF Try.prog 51 = true := by kernel_rfl
theorem pf_52 : plainF Try.prog 52 = true := by kernel_rfl
theorem pf_53 : plainF Try.prog 53 = true := by kernel_rfl
theorem pf_54 : plainF Try.prog 54 = true := by kernel_rfl
theorem pf_55 : plainF Try.prog 55 = true := by kernel_rfl
theorem tE_42 : sliceT Try.prog 42 = some (3, 1, 8, (.int .i64 0)) := by kernel_rfl
theorem tU_36 : Try.prog.underlying 36 = some (.pointer 124) := by kernel_rfl
theorem tU_4 : Try.prog.underlying 4 = some (.bool) := by kernel_rfl
theorem tU_42 : Try.prog.underlying 42 = some (.slice 3) := by kernel_rfl

theorem alike_step (stv : Value) (mm : Int) (os : List Int) (Ao : Option Addr) (co : Nat) (t u : T) (w : World) (hP : PN stv w t) (hR : PR w u) (hsk : skz mm t = skel u) (hid : ∀ x ∈ nodes t, 1 ≤ x.id) (hO : RowA w Ao (os.map fun i => .int .i64 i)) (hos : ∀ x ∈ os, x ≤ mm) (hon : os.length ≤ 4611686018427387904) (hl4 : t.kids.length ≤ 4194304) (ih : ∀ k v : T, k ∈ t.kids → ∀ W, PN stv W k → PR W v → skz mm k = skel v → (∀ x ∈ nodes k, 1 ≤ x.id) → RowA W Ao (os.map fun i => .int .i64 i) → Calls Try.prog 37 #[.pointer (some ⟨k.b, 0, none⟩), .pointer (some ⟨v.b, 0, none⟩), .slice Ao os.length co] W (Ret fun v w' => v = .bool true ∧ Ext W w')) :
    Calls Try.prog 37 #[(.pointer (some ⟨t.b, 0, none⟩)), (.pointer (some ⟨u.b, 0, none⟩)), (.slice Ao os.length co)] w (Ret (fun v w' => v = .bool true ∧ Ext w w')) := by
  obtain ⟨hk, hn, hlf, hkl, hidu, hkid⟩ := skz_skel_parts hsk
  have hid1 := hid t (nodes_self t)
  have hbu : Blk w u.b #[(.int .i64 u.id), (.int .i64 t.kind), (.int .i64 t.n), (.int .i64 (sz u)), (.int .i64 t.lf.kind), (.int .i64 t.lf.skip), (.int .i64 t.lf.len), (.int .i64 t.lf.reach), (.slice ((u.ka.map fun k => ⟨k, 0, none⟩)) t.kids.length u.kc)] 86 := by have h9 := hR.blk; unfold refC at h9; rw [← hk, ← hn, ← hlf, ← hkl] at h9; exact h9
  refine calls_xc (n := 129) (f := fun s_ => [(.pointer (some ⟨t.b, 0, none⟩)), (.pointer (some ⟨u.b, 0, none⟩)), (.slice Ao os.length co)].getD s_ undef) Try.func37 rfl rfl (by simp) (fun s_ => by simp) ?_
  refine xc_seq ?_
  refine xc_region ?_
  refine xl_op (P := Try.prog) (some 6) rfl rfl (ox_assign (v := (.bool false)) rfl ?_)
  refine xl_nil ?_
  refine xc_seq ?_
  refine xc_region ?_
  refine xl_op (P := Try.prog) (some 14) rfl rfl (ox_move (v := (.pointer (some ⟨t.b, 0, none⟩))) rfl ?_)
  refine xl_op (P := Try.prog) (some 15) rfl rfl (ox_callE (al := [(.pointer (some ⟨t.b, 0, none⟩))]) pf_51 rfl (ret_mono (leafOf_calls stv t w (hP.ext (Chg.refl _ _))) ?_))
  rintro _ w1 ⟨rfl, e1⟩
  have he1 := e1.size
  refine xl_op (P := Try.prog) (some 13) rfl rfl (ox_move (v := (.tuple #[(.agg #[(.int .i64 t.lf.kind), (.int .i64 t.lf.skip), (.int .i64 t.lf.len), (.int .i64 t.lf.reach)]), (.bool (decide (t.kind = 1)))])) rfl ?_)
  refine xl_op (P := Try.prog) (some 16) rfl rfl (ox_extract (vs := #[(.agg #[(.int .i64 t.lf.kind), (.int .i64 t.lf.skip), (.int .i64 t.lf.len), (.int .i64 t.lf.reach)]), (.bool (decide (t.kind = 1)))]) (v := (.agg #[(.int .i64 t.lf.kind), (.int .i64 t.lf.skip), (.int .i64 t.lf.len), (.int .i64 t.lf.reach)])) rfl rfl ?_)
  refine xl_op (P := Try.prog) (some 17) rfl rfl (ox_extract (vs := #[(.agg #[(.int .i64 t.lf.kind), (.int .i64 t.lf.skip), (.int .i64 t.lf.len), (.int .i64 t.lf.reach)]), (.bool (decide (t.kind = 1)))]) (v := (.bool (decide (t.kind = 1)))) rfl rfl ?_)
  refine xl_op (P := Try.prog) (some 7) rfl rfl (ox_alloc tZ_84 ?_)
  intro w2 e2 z1 b1
  replace b1 : Blk w2 w1.heap.size #[(.int .i64 0), (.int .i64 0), (.int .i64 0), (.int .i64 0)] 84 := b1
  refine xl_op (P := Try.prog) none rfl rfl (ox_store (n := 4) (vs := [(.int .i64 t.lf.kind), (.int .i64 t.lf.skip), (.int .i64 t.lf.len), (.int .i64 t.lf.reach)]) tS_84 rfl (v := (.agg #[(.int .i64 t.lf.kind), (.int .i64 t.lf.skip), (.int .i64 t.lf.len), (.int .i64 t.lf.reach)])) rfl rfl rfl rfl b1 (Nat.le_of_ble_eq_true rfl) ?_)
  intro w3 e3 z2 b2
  replace b2 : Blk w3 w1.heap.size #[(.int .i64 t.lf.kind), (.int .i64 t.lf.skip), (.int .i64 t.lf.len), (.int .i64 t.lf.reach)] 84 := blk_full b2 rfl
  refine xl_op (P := Try.prog) (some 8) rfl rfl (ox_assign (v := (.bool (decide (t.kind = 1)))) rfl ?_)
  refine xl_nil ?_
  refine xc_seq ?_
  refine xc_seq ?_
  refine xc_regionE [] (fun W_ => Chg (fun _ => False) w3 W_) hmix ?_
  intro w4 e4 z3
  have hS1 : Chg (fun _ => False) w3 w4 := Ext.to e4
  refine xd_pure 0 (some 18) rfl rfl (by kernel_rfl) (v := (.pointer (some ⟨t.b, 0, none⟩))) (.inl ⟨rfl, fun W_ hW_ => ox_move (v := (.pointer (some ⟨t.b, 0, none⟩))) rfl ⟨rfl, rfl⟩⟩) ?_
  refine xd_take 1 (some 19) rfl rfl (by kernel_rfl) (v := (.int .i64 t.kind)) (.inl ⟨rfl, fun W_ hW_ => ox_callE (al := [(.pointer (some ⟨t.b, 0, none⟩))]) pf_53 rfl (ret_mono (kind_calls stv t W_ (hP.ext (Ext.trans (Ext.chg1 (Ext.trans e1 e2) e3 (by omega)) hW_))) (by rintro _ _ ⟨rfl, rfl⟩; exact ⟨rfl, rfl⟩))⟩) hS1 ?_
  refine xd_pure 2 (some 20) rfl rfl (by kernel_rfl) (v := (.pointer (some ⟨u.b, 0, none⟩))) (.inl ⟨rfl, fun W_ hW_ => ox_move (v := (.pointer (some ⟨u.b, 0, none⟩))) rfl ⟨rfl, rfl⟩⟩) ?_
  refine xd_pure 3 (some 21) rfl rfl (by kernel_rfl) (v := (.pointer (some ⟨u.b, 0, none⟩))) (.inl ⟨rfl, fun W_ hW_ => ox_nilCheck (p := ⟨u.b, 0, none⟩) rfl ⟨rfl, rfl⟩⟩) ?_
  refine xd_pure 4 (some 22) rfl rfl (by kernel_rfl) (v := (.pointer (some ⟨u.b, 1, none⟩))) (.inl ⟨rfl, fun W_ hW_ => ox_fieldAddr (b := u.b) (o := 0) tF_86_1 rfl ⟨rfl, rfl⟩⟩) ?_
  have q1 := (((hbu.ext e1).ext e2).keep1 e3 (((hbu.ext e1).ext e2).ne b1 (by decide)))
  refine xd_take 5 (some 23) rfl rfl (by kernel_rfl) (v := (.int .i64 t.kind)) (.inl ⟨rfl, fun W_ hW_ => ox_load (v := (.int .i64 t.kind)) tA_3 rfl ((q1.ext hW_).cell rfl) ⟨rfl, rfl⟩⟩) hS1 ?_
  refine xd_pure 6 (some 24) rfl rfl (by kernel_rfl) (v := (.bool (decide ((t.kind : Int) ≠ t.kind)))) (.inl ⟨rfl, fun W_ hW_ => ox_neq (k := .i64) (a := t.kind) (b := t.kind) rfl rfl ⟨rfl, rfl⟩⟩) ?_
  refine xd_pure 7 (some 25) rfl rfl (by kernel_rfl) (v := (.bool (decide ((t.kind : Int) ≠ t.kind)))) (.inl ⟨rfl, fun W_ hW_ => ox_move (v := (.bool (decide ((t.kind : Int) ≠ t.kind)))) rfl ⟨rfl, rfl⟩⟩) ?_
  refine xd_pure 8 (some 26) rfl rfl (by kernel_rfl) (v := (.pointer (some ⟨t.b, 0, none⟩))) (.inl ⟨(wanted_of (j := 7) (b := false) rfl (congrArg some (by simp : decide ((t.kind : Int) ≠ t.kind) = false))), fun W_ hW_ => ox_move (v := (.pointer (some ⟨t.b, 0, none⟩))) rfl ⟨rfl, rfl⟩⟩) ?_
  refine xd_take 9 (some 27) rfl rfl (by kernel_rfl) (v := (.int .i64 t.n)) (.inl ⟨(wanted_of (j := 7) (b := false) rfl (congrArg some (by simp : decide ((t.kind : Int) ≠ t.kind) = false))), fun W_ hW_ => ox_callE (al := [(.pointer (some ⟨t.b, 0, none⟩))]) pf_54 rfl (ret_mono (n_calls stv t W_ (hP.ext (Ext.trans (Ext.chg1 (Ext.trans e1 e2) e3 (by omega)) hW_))) (by rintro _ _ ⟨rfl, rfl⟩; exact ⟨rfl, rfl⟩))⟩) hS1 ?_
  refine xd_pure 10 (some 28) rfl rfl (by kernel_rfl) (v := (.pointer (some ⟨u.b, 0, none⟩))) (.inl ⟨(wanted_of (j := 7) (b := false) rfl (congrArg some (by simp : decide ((t.kind : Int) ≠ t.kind) = false))), fun W_ hW_ => ox_move (v := (.pointer (some ⟨u.b, 0, none⟩))) rfl ⟨rfl, rfl⟩⟩) ?_
  refine xd_pure 11 (some 29) rfl rfl (by kernel_rfl) (v := (.pointer (some ⟨u.b, 0, none⟩))) (.inl ⟨(wanted_of (j := 7) (b := false) rfl (congrArg some (by simp : decide ((t.kind : Int) ≠ t.kind) = false))), fun W_ hW_ => ox_nilCheck (p := ⟨u.b, 0, none⟩) rfl ⟨rfl, rfl⟩⟩) ?_
  refine xd_pure 12 (some 30) rfl rfl (by kernel_rfl) (v := (.pointer (some ⟨u.b, 2, none⟩))) (.inl ⟨(wanted_of (j := 7) (b := false) rfl (congrArg some (by simp : decide ((t.kind : Int) ≠ t.kind) = false))), fun W_ hW_ => ox_fieldAddr (b := u.b) (o := 0) tF_86_2 rfl ⟨rfl, rfl⟩⟩) ?_
  have q2 := (((hbu.ext e1).ext e2).keep1 e3 (((hbu.ext e1).ext e2).ne b1 (by decide)))
  refine xd_take 13 (some 31) rfl rfl (by kernel_rfl) (v := (.int .i64 t.n)) (.inl ⟨(wanted_of (j := 7) (b := false) rfl (congrArg some (by simp : decide ((t.kind : Int) ≠ t.kind) = false))), fun W_ hW_ => ox_load (v := (.int .i64 t.n)) tA_3 rfl ((q2.ext hW_).cell rfl) ⟨rfl, rfl⟩⟩) hS1 ?_
  refine xd_pure 14 (some 32) rfl rfl (by kernel_rfl) (v := (.bool (decide ((t.n : Int) ≠ t.n)))) (.inl ⟨(wanted_of (j := 7) (b := false) rfl (congrArg some (by simp : decide ((t.kind : Int) ≠ t.kind) = false))), fun W_ hW_ => ox_neq (k := .i64) (a := t.n) (b := t.n) rfl rfl ⟨rfl, rfl⟩⟩) ?_
  refine xd_pure 15 (some 33) rfl rfl (by kernel_rfl) (v := (.bool (decide ((t.n : Int) ≠ t.n)))) (.inl ⟨rfl, fun W_ hW_ => ox_pick_f (v := (.bool (decide ((t.n : Int) ≠ t.n)))) (congrArg Value.bool (by simp : decide ((t.kind : Int) ≠ t.kind) = false)) rfl ⟨rfl, rfl⟩⟩) ?_
  refine xd_pure 16 (some 34) rfl rfl (by kernel_rfl) (v := (.bool (decide ((t.n : Int) ≠ t.n)))) (.inl ⟨rfl, fun W_ hW_ => ox_move (v := (.bool (decide ((t.n : Int) ≠ t.n)))) rfl ⟨rfl, rfl⟩⟩) ?_
  refine xd_pure 17 (some 35) rfl rfl (by kernel_rfl) (v := (.pointer (some ⟨t.b, 0, none⟩))) (.inl ⟨(wanted_of (j := 16) (b := false) rfl (congrArg some (by simp : decide ((t.n : Int) ≠ t.n) = false))), fun W_ hW_ => ox_move (v := (.pointer (some ⟨t.b, 0, none⟩))) rfl ⟨rfl, rfl⟩⟩) ?_
  refine xd_take 18 (some 36) rfl rfl (by kernel_rfl) (v := (.int .i64 (((t.kids.length : Nat) : Int)))) (.inl ⟨(wanted_of (j := 16) (b := false) rfl (congrArg some (by simp : decide ((t.n : Int) ≠ t.n) = false))), fun W_ hW_ => ox_callE (al := [(.pointer (some ⟨t.b, 0, none⟩))]) pf_55 rfl (ret_mono (count_calls stv t W_ (hP.ext (Ext.trans (Ext.chg1 (Ext.trans e1 e2) e3 (by omega)) hW_))) (by rintro _ _ ⟨rfl, rfl⟩; exact ⟨rfl, rfl⟩))⟩) hS1 ?_
  refine xd_pure 19 (some 37) rfl rfl (by kernel_rfl) (v := (.pointer (some ⟨u.b, 0, none⟩))) (.inl ⟨(wanted_of (j := 16) (b := false) rfl (congrArg some (by simp : decide ((t.n : Int) ≠ t.n) = false))), fun W_ hW_ => ox_move (v := (.pointer (some ⟨u.b, 0, none⟩))) rfl ⟨rfl, rfl⟩⟩) ?_
  refine xd_pure 20 (some 38) rfl rfl (by kernel_rfl) (v := (.pointer (some ⟨u.b, 0, none⟩))) (.inl ⟨(wanted_of (j := 16) (b := false) rfl (congrArg some (by simp : decide ((t.n : Int) ≠ t.n) = false))), fun W_ hW_ => ox_nilCheck (p := ⟨u.b, 0, none⟩) rfl ⟨rfl, rfl⟩⟩) ?_
  refine xd_pure 21 (some 39) rfl rfl (by kernel_rfl) (v := (.pointer (some ⟨u.b, 8, none⟩))) (.inl ⟨(wanted_of (j := 16) (b := false) rfl (congrArg some (by simp : decide ((t.n : Int) ≠ t.n) = false))), fun W_ hW_ => ox_fieldAddr (b := u.b) (o := 0) tF_86_5 rfl ⟨rfl, rfl⟩⟩) ?_
  have q3 := (((hbu.ext e1).ext e2).keep1 e3 (((hbu.ext e1).ext e2).ne b1 (by decide)))
  refine xd_take 22 (some 40) rfl rfl (by kernel_rfl) (v := (.slice ((u.ka.map fun k => ⟨k, 0, none⟩)) t.kids.length u.kc)) (.inl ⟨(wanted_of (j := 16) (b := false) rfl (congrArg some (by simp : decide ((t.n : Int) ≠ t.n) = false))), fun W_ hW_ => ox_load (v := (.slice ((u.ka.map fun k => ⟨k, 0, none⟩)) t.kids.length u.kc)) tA_29 rfl ((q3.ext hW_).cell rfl) ⟨rfl, rfl⟩⟩) hS1 ?_
  refine xd_pure 23 (some 41) rfl rfl (by kernel_rfl) (v := (.int .i64 (((t.kids.length : Nat) : Int)))) (.inl ⟨(wanted_of (j := 16) (b := false) rfl (congrArg some (by simp : decide ((t.n : Int) ≠ t.n) = false))), fun W_ hW_ => ox_len (A := ((u.ka.map fun k => ⟨k, 0, none⟩))) (n := t.kids.length) (cp := u.kc) rfl tU_29 rfl ⟨rfl, rfl⟩⟩) ?_
  refine xd_pure 24 (some 42) rfl rfl (by kernel_rfl) (v := (.bool (decide ((((t.kids.length : Nat) : Int) : Int) ≠ (((t.kids.length : Nat) : Int)))))) (.inl ⟨(wanted_of (j := 16) (b := false) rfl (congrArg some (by simp : decide ((t.n : Int) ≠ t.n) = false))), fun W_ hW_ => ox_neq (k := .i64) (a := (((t.kids.length : Nat) : Int))) (b := (((t.kids.length : Nat) : Int))) rfl rfl ⟨rfl, rfl⟩⟩) ?_
  refine xd_pure 25 (some 43) rfl rfl (by kernel_rfl) (v := (.bool (decide ((((t.kids.length : Nat) : Int) : Int) ≠ (((t.kids.length : Nat) : Int)))))) (.inl ⟨rfl, fun W_ hW_ => ox_pick_f (v := (.bool (decide ((((t.kids.length : Nat) : Int) : Int) ≠ (((t.kids.length : Nat) : Int)))))) (congrArg Value.bool (by simp : decide ((t.n : Int) ≠ t.n) = false)) rfl ⟨rfl, rfl⟩⟩) ?_
  refine xd_pure 26 (some 44) rfl rfl (by kernel_rfl) (v := (.bool (decide ((((t.kids.length : Nat) : Int) : Int) ≠ (((t.kids.length : Nat) : Int)))))) (.inl ⟨rfl, fun W_ hW_ => ox_move (v := (.bool (decide ((((t.kids.length : Nat) : Int) : Int) ≠ (((t.kids.length : Nat) : Int)))))) rfl ⟨rfl, rfl⟩⟩) ?_
  refine xd_pure 27 (some 45) rfl rfl (by kernel_rfl) (v := (.bool (decide (t.kind = 1)))) (.inl ⟨(wanted_of (j := 26) (b := false) rfl (congrArg some (by simp : decide ((((t.kids.length : Nat) : Int) : Int) ≠ (((t.kids.length : Nat) : Int))) = false))), fun W_ hW_ => ox_move (v := (.bool (decide (t.kind = 1)))) rfl ⟨rfl, rfl⟩⟩) ?_
  refine xd_pure 28 (some 46) rfl rfl (by kernel_rfl) (v := (.pointer (some ⟨u.b, 0, none⟩))) (.inl ⟨(wanted_of (j := 26) (b := false) rfl (congrArg some (by simp : decide ((((t.kids.length : Nat) : Int) : Int) ≠ (((t.kids.length : Nat) : Int))) = false))), fun W_ hW_ => ox_move (v := (.pointer (some ⟨u.b, 0, none⟩))) rfl ⟨rfl, rfl⟩⟩) ?_
  refine xd_pure 29 (some 47) rfl rfl (by kernel_rfl) (v := (.pointer (some ⟨u.b, 0, none⟩))) (.inl ⟨(wanted_of (j := 26) (b := false) rfl (congrArg some (by simp : decide ((((t.kids.length : Nat) : Int) : Int) ≠ (((t.kids.length : Nat) : Int))) = false))), fun W_ hW_ => ox_nilCheck (p := ⟨u.b, 0, none⟩) rfl ⟨rfl, rfl⟩⟩) ?_
  refine xd_pure 30 (some 48) rfl rfl (by kernel_rfl) (v := (.pointer (some ⟨u.b, 1, none⟩))) (.inl ⟨(wanted_of (j := 26) (b := false) rfl (congrArg some (by simp : decide ((((t.kids.length : Nat) : Int) : Int) ≠ (((t.kids.length : Nat) : Int))) = false))), fun W_ hW_ => ox_fieldAddr (b := u.b) (o := 0) tF_86_1 rfl ⟨rfl, rfl⟩⟩) ?_
  have q4 := (((hbu.ext e1).ext e2).keep1 e3 (((hbu.ext e1).ext e2).ne b1 (by decide)))
  refine xd_take 31 (some 49) rfl rfl (by kernel_rfl) (v := (.int .i64 t.kind)) (.inl ⟨(wanted_of (j := 26) (b := false) rfl (congrArg some (by simp : decide ((((t.kids.length : Nat) : Int) : Int) ≠ (((t.kids.length : Nat) : Int))) = false))), fun W_ hW_ => ox_load (v := (.int .i64 t.kind)) tA_3 rfl ((q4.ext hW_).cell rfl) ⟨rfl, rfl⟩⟩) hS1 ?_
  refine xd_pure 32 (some 50) rfl rfl (by kernel_rfl) (v := (.bool (decide ((t.kind : Int) = 1)))) (.inl ⟨(wanted_of (j := 26) (b := false) rfl (congrArg some (by simp : decide ((((t.kids.length : Nat) : Int) : Int) ≠ (((t.kids.length : Nat) : Int))) = false))), fun W_ hW_ => ox_eql (k := .i64) (a := t.kind) (b := 1) rfl rfl ⟨rfl, rfl⟩⟩) ?_
  refine xd_pure 33 (some 51) rfl rfl (by kernel_rfl) (v := (.bool (((decide (t.kind = 1)) != (decide ((t.kind : Int) = 1)))))) (.inl ⟨(wanted_of (j := 26) (b := false) rfl (congrArg some (by simp : decide ((((t.kids.length : Nat) : Int) : Int) ≠ (((t.kids.length : Nat) : Int))) = false))), fun W_ hW_ => ox_neqBool (a := ((decide (t.kind = 1)))) (b := ((decide ((t.kind : Int) = 1)))) tU_4 rfl rfl ⟨rfl, rfl⟩⟩) ?_
  refine xd_pure 34 (some 52) rfl rfl (by kernel_rfl) (v := (.bool (((decide (t.kind = 1)) != (decide ((t.kind : Int) = 1)))))) (.inl ⟨rfl, fun W_ hW_ => ox_pick_f (v := (.bool (((decide (t.kind = 1)) != (decide ((t.kind : Int) = 1)))))) (congrArg Value.bool (by simp : decide ((((t.kids.length : Nat) : Int) : Int) ≠ (((t.kids.length : Nat) : Int))) = false)) rfl ⟨rfl, rfl⟩⟩) ?_
  refine xd_pure 35 (some 53) rfl rfl (by kernel_rfl) (v := (.bool (((decide (t.kind = 1)) != (decide ((t.kind : Int) = 1)))))) (.inl ⟨rfl, fun W_ hW_ => ox_move (v := (.bool (((decide (t.kind = 1)) != (decide ((t.kind : Int) = 1)))))) rfl ⟨rfl, rfl⟩⟩) ?_
  refine xd_take 36 (some 54) rfl rfl (by kernel_rfl) (v := (.agg #[(.int .i64 t.lf.kind), (.int .i64 t.lf.skip), (.int .i64 t.lf.len), (.int .i64 t.lf.reach)])) (.inl ⟨(wanted_of (j := 35) (b := false) rfl (congrArg some (by simp : ((decide (t.kind = 1)) != (decide ((t.kind : Int) = 1))) = false))), fun W_ hW_ => ox_loadN (vs := [(.int .i64 t.lf.kind), (.int .i64 t.lf.skip), (.int .i64 t.lf.len), (.int .i64 t.lf.reach)]) tA_84 tS_84 rfl rfl ⟨(b2.ext hW_).cell rfl, (b2.ext hW_).cell rfl, (b2.ext hW_).cell rfl, (b2.ext hW_).cell rfl, trivial⟩ ⟨rfl, rfl⟩⟩) hS1 ?_
  refine xd_pure 37 (some 55) rfl rfl (by kernel_rfl) (v := (.pointer (some ⟨u.b, 0, none⟩))) (.inl ⟨(wanted_of (j := 35) (b := false) rfl (congrArg some (by simp : ((decide (t.kind = 1)) != (decide ((t.kind : Int) = 1))) = false))), fun W_ hW_ => ox_move (v := (.pointer (some ⟨u.b, 0, none⟩))) rfl ⟨rfl, rfl⟩⟩) ?_
  refine xd_pure 38 (some 56) rfl rfl (by kernel_rfl) (v := (.pointer (some ⟨u.b, 0, none⟩))) (.inl ⟨(wanted_of (j := 35) (b := false) rfl (congrArg some (by simp : ((decide (t.kind = 1)) != (decide ((t.kind : Int) = 1))) = false))), fun W_ hW_ => ox_nilCheck (p := ⟨u.b, 0, none⟩) rfl ⟨rfl, rfl⟩⟩) ?_
  refine xd_pure 39 (some 57) rfl rfl (by kernel_rfl) (v := (.pointer (some ⟨u.b, 4, none⟩))) (.inl ⟨(wanted_of (j := 35) (b := false) rfl (congrArg some (by simp : ((decide (t.kind = 1)) != (decide ((t.kind : Int) = 1))) = false))), fun W_ hW_ => ox_fieldAddr (b := u.b) (o := 0) tF_86_4 rfl ⟨rfl, rfl⟩⟩) ?_
  have q5 := (((hbu.ext e1).ext e2).keep1 e3 (((hbu.ext e1).ext e2).ne b1 (by decide)))
  refine xd_take 40 (some 58) rfl rfl (by kernel_rfl) (v := (.agg #[(.int .i64 t.lf.kind), (.int .i64 t.lf.skip), (.int .i64 t.lf.len), (.int .i64 t.lf.reach)])) (.inl ⟨(wanted_of (j := 35) (b := false) rfl (congrArg some (by simp : ((decide (t.kind = 1)) != (decide ((t.kind : Int) = 1))) = false))), fun W_ hW_ => ox_loadN (vs := [(.int .i64 t.lf.kind), (.int .i64 t.lf.skip), (.int .i64 t.lf.len), (.int .i64 t.lf.reach)]) tA_84 tS_84 rfl rfl ⟨(q5.ext hW_).cell rfl, (q5.ext hW_).cell rfl, (q5.ext hW_).cell rfl, (q5.ext hW_).cell rfl, trivial⟩ ⟨rfl, rfl⟩⟩) hS1 ?_
  refine xd_pure 41 (some 59) rfl rfl (by kernel_rfl) (v := (.bool (!decide (((t.lf.kind : Int) = t.lf.kind ∧ (t.lf.skip : Int) = t.lf.skip ∧ (t.lf.len : Int) = t.lf.len ∧ (t.lf.reach : Int) = t.lf.reach))))) (.inl ⟨(wanted_of (j := 35) (b := false) rfl (congrArg some (by simp : ((decide (t.kind = 1)) != (decide ((t.kind : Int) = 1))) = false))), fun W_ hW_ => ox_neqF (xs := [(.int .i64 t.lf.kind), (.int .i64 t.lf.skip), (.int .i64 t.lf.len), (.int .i64 t.lf.reach)]) (ys := [(.int .i64 t.lf.kind), (.int .i64 t.lf.skip), (.int .i64 t.lf.len), (.int .i64 t.lf.reach)]) (p := ((t.lf.kind : Int) = t.lf.kind ∧ (t.lf.skip : Int) = t.lf.skip ∧ (t.lf.len : Int) = t.lf.len ∧ (t.lf.reach : Int) = t.lf.reach)) fS_84 rfl rfl rfl rfl (by simp) ⟨rfl, rfl⟩⟩) ?_
  refine xd_pure 42 (some 60) rfl rfl (by kernel_rfl) (v := (.bool (!decide (((t.lf.kind : Int) = t.lf.kind ∧ (t.lf.skip : Int) = t.lf.skip ∧ (t.lf.len : Int) = t.lf.len ∧ (t.lf.reach : Int) = t.lf.reach))))) (.inl ⟨rfl, fun W_ hW_ => ox_pick_f (v := (.bool (!decide (((t.lf.kind : Int) = t.lf.kind ∧ (t.lf.skip : Int) = t.lf.skip ∧ (t.lf.len : Int) = t.lf.len ∧ (t.lf.reach : Int) = t.lf.reach))))) (congrArg Value.bool (by simp : ((decide (t.kind = 1)) != (decide ((t.kind : Int) = 1))) = false)) rfl ⟨rfl, rfl⟩⟩) ?_
  refine xd_done (by kernel_rfl) ?_ _
  refine xc_cond_f (congrArg Value.bool (by simp : (!decide (((t.lf.kind : Int) = t.lf.kind ∧ (t.lf.skip : Int) = t.lf.skip ∧ (t.lf.len : Int) = t.lf.len ∧ (t.lf.reach : Int) = t.lf.reach))) = false)) ?_
  refine xc_skip ?_
  refine xc_seq ?_
  refine xc_seq ?_
  by_cases h1 : (u.id : Int) ≠ 0
  · skip
    have hidq : ¬ ((t.id : Int) ≠ u.id) := by rw [hidu] at *; split at * <;> omega
    refine xc_regionE [] (fun W_ => Chg (fun _ => False) w4 W_) hmix ?_
    intro w5 e5 z4
    have hS2 : Chg (fun _ => False) w4 w5 := Ext.to e5
    refine xd_pure 0 (some 61) rfl rfl (by kernel_rfl) (v := (.pointer (some ⟨u.b, 0, none⟩))) (.inl ⟨rfl, fun W_ hW_ => ox_move (v := (.pointer (some ⟨u.b, 0, none⟩))) rfl ⟨rfl, rfl⟩⟩) ?_
    refine xd_pure 1 (some 62) rfl rfl (by kernel_rfl) (v := (.pointer (some ⟨u.b, 0, none⟩))) (.inl ⟨rfl, fun W_ hW_ => ox_nilCheck (p := ⟨u.b, 0, none⟩) rfl ⟨rfl, rfl⟩⟩) ?_
    refine xd_pure 2 (some 63) rfl rfl (by kernel_rfl) (v := (.pointer (some ⟨u.b, 0, none⟩))) (.inl ⟨rfl, fun W_ hW_ => ox_fieldAddr (b := u.b) (o := 0) tF_86_0 rfl ⟨rfl, rfl⟩⟩) ?_
    have q6 := (((hbu.ext e1).ext e2).keep1 e3 (((hbu.ext e1).ext e2).ne b1 (by decide)))
    refine xd_take 3 (some 64) rfl rfl (by kernel_rfl) (v := (.int .i64 u.id)) (.inl ⟨rfl, fun W_ hW_ => ox_load (v := (.int .i64 u.id)) tA_3 rfl (((q6.ext e4).ext hW_).cell rfl) ⟨rfl, rfl⟩⟩) hS2 ?_
    refine xd_pure 4 (some 65) rfl rfl (by kernel_rfl) (v := (.bool (decide ((u.id : Int) ≠ 0)))) (.inl ⟨rfl, fun W_ hW_ => ox_neq (k := .i64) (a := u.id) (b := 0) rfl rfl ⟨rfl, rfl⟩⟩) ?_
    refine xd_pure 5 (some 66) rfl rfl (by kernel_rfl) (v := (.bool (decide ((u.id : Int) ≠ 0)))) (.inl ⟨rfl, fun W_ hW_ => ox_move (v := (.bool (decide ((u.id : Int) ≠ 0)))) rfl ⟨rfl, rfl⟩⟩) ?_
    refine xd_pure 6 (some 67) rfl rfl (by kernel_rfl) (v := (.pointer (some ⟨t.b, 0, none⟩))) (.inl ⟨(wanted_of (j := 5) (b := true) rfl (congrArg some (decide_eq_true h1))), fun W_ hW_ => ox_move (v := (.pointer (some ⟨t.b, 0, none⟩))) rfl ⟨rfl, rfl⟩⟩) ?_
    refine xd_take 7 (some 68) rfl rfl (by kernel_rfl) (v := (.int .i64 t.id)) (.inl ⟨(wanted_of (j := 5) (b := true) rfl (congrArg some (decide_eq_true h1))), fun W_ hW_ => ox_callE (al := [(.pointer (some ⟨t.b, 0, none⟩))]) pf_40 rfl (ret_mono (number_calls stv t W_ (hP.ext (Ext.trans (Ext.trans (Ext.chg1 (Ext.trans e1 e2) e3 (by omega)) e4) hW_))) (by rintro _ _ ⟨rfl, rfl⟩; exact ⟨rfl, rfl⟩))⟩) hS2 ?_
    refine xd_pure 8 (some 69) rfl rfl (by kernel_rfl) (v := (.pointer (some ⟨u.b, 0, none⟩))) (.inl ⟨(wanted_of (j := 5) (b := true) rfl (congrArg some (decide_eq_true h1))), fun W_ hW_ => ox_move (v := (.pointer (some ⟨u.b, 0, none⟩))) rfl ⟨rfl, rfl⟩⟩) ?_
    refine xd_pure 9 (some 70) rfl rfl (by kernel_rfl) (v := (.pointer (some ⟨u.b, 0, none⟩))) (.inl ⟨(wanted_of (j := 5) (b := true) rfl (congrArg some (decide_eq_true h1))), fun W_ hW_ => ox_nilCheck (p := ⟨u.b, 0, none⟩) rfl ⟨rfl, rfl⟩⟩) ?_
    refine xd_pure 10 (some 71) rfl rfl (by kernel_rfl) (v := (.pointer (some ⟨u.b, 0, none⟩))) (.inl ⟨(wanted_of (j := 5) (b := true) rfl (congrArg some (decide_eq_true h1))), fun W_ hW_ => ox_fieldAddr (b := u.b) (o := 0) tF_86_0 rfl ⟨rfl, rfl⟩⟩) ?_
    have q7 := (((hbu.ext e1).ext e2).keep1 e3 (((hbu.ext e1).ext e2).ne b1 (by decide)))
    refine xd_take 11 (some 72) rfl rfl (by kernel_rfl) (v := (.int .i64 u.id)) (.inl ⟨(wanted_of (j := 5) (b := true) rfl (congrArg some (decide_eq_true h1))), fun W_ hW_ => ox_load (v := (.int .i64 u.id)) tA_3 rfl (((q7.ext e4).ext hW_).cell rfl) ⟨rfl, rfl⟩⟩) hS2 ?_
    refine xd_pure 12 (some 73) rfl rfl (by kernel_rfl) (v := (.bool (decide ((t.id : Int) ≠ u.id)))) (.inl ⟨(wanted_of (j := 5) (b := true) rfl (congrArg some (decide_eq_true h1))), fun W_ hW_ => ox_neq (k := .i64) (a := t.id) (b := u.id) rfl rfl ⟨rfl, rfl⟩⟩) ?_
    refine xd_pure 13 (some 74) rfl rfl (by kernel_rfl) (v := (.bool (decide ((t.id : Int) ≠ u.id)))) (.inl ⟨rfl, fun W_ hW_ => ox_pick_t (v := (.bool (decide ((t.id : Int) ≠ u.id)))) (congrArg Value.bool (decide_eq_true h1)) rfl ⟨rfl, rfl⟩⟩) ?_
    refine xd_done (by kernel_rfl) ?_ _
    refine xc_cond_f (congrArg Value.bool (decide_eq_false hidq)) ?_
    refine xc_skip ?_
    refine xc_seq ?_
    refine xc_seq ?_
    refine xc_region ?_
    refine xl_op (P := Try.prog) (some 9) rfl rfl (ox_assign (v := (.int .i64 0)) rfl ?_)
    refine xl_nil ?_
    refine xc_block ?_
    have hEx1 := (Ext.trans (Ext.trans (Ext.chg1 (Ext.trans e1 e2) e3 (by omega)) e4) e5)
    have hEx1z := hEx1.size
    refine xc_loopN (fun m f W => ∃ (i : Nat), m = os.length - i ∧ i ≤ os.length ∧ f 0 = (.pointer (some ⟨t.b, 0, none⟩)) ∧ f 1 = (.pointer (some ⟨u.b, 0, none⟩)) ∧ f 2 = (.slice Ao os.length co) ∧ f 9 = (.int .i64 ((i : Nat))) ∧ Ext w5 W) (os.length) ?_ ?_
    · exact ⟨0, by omega, by omega, rfl, rfl, rfl, (by first | exact rfl | exact (congrArg (Value.int .i64) (by omega))), (Chg.refl _ _)⟩
    · rintro m f1 w6 ⟨i, hm, hi, g0_f1, g1_f1, g2_f1, g9_f1, x_f1⟩
      have hzX := x_f1.size
      refine xc_seq ?_
      refine xc_seq ?_
      refine xc_region ?_
      refine xl_op (P := Try.prog) (some 75) rfl rfl (ox_move (v := (.int .i64 ((i : Nat)))) g9_f1 ?_)
      refine xl_op (P := Try.prog) (some 76) rfl rfl (ox_move (v := (.slice Ao os.length co)) g2_f1 ?_)
      refine xl_op (P := Try.prog) (some 77) rfl rfl (ox_len (A := Ao) (n := os.length) (cp := co) rfl tU_42 rfl ?_)
      refine xl_op (P := Try.prog) (some 78) rfl rfl (ox_lss (k := .i64) (a := ((i : Nat))) (b := (((os.length : Nat) : Int))) rfl rfl ?_)
      refine xl_op (P := Try.prog) (some 79) rfl rfl (ox_move (v := (.bool (decide (((i : Nat) : Int) < (((os.length : Nat) : Int)))))) rfl ?_)
      refine xl_may (P := Try.prog) (some 80) (j := 4) (b := true) (((decide (((i : Nat) : Int) < (((os.length : Nat) : Int))))) = true) (.bool (decide (((i : Nat) : Int) < (((os.length : Nat) : Int))))) (.pointer (some ⟨u.b, 0, none⟩)) rfl rfl rfl (may_b ((decide (((i : Nat) : Int) < (((os.length : Nat) : Int))))) true) (fun hp => ox_move (v := (.pointer (some ⟨u.b, 0, none⟩))) g1_f1 ⟨rfl, rfl⟩) ?_
      refine xl_may (P := Try.prog) (some 81) (j := 4) (b := true) (((decide (((i : Nat) : Int) < (((os.length : Nat) : Int))))) = true) (.bool (decide (((i : Nat) : Int) < (((os.length : Nat) : Int))))) (.pointer (some ⟨u.b, 0, none⟩)) rfl rfl rfl (may_b ((decide (((i : Nat) : Int) < (((os.length : Nat) : Int))))) true) (fun hp => ox_nilCheck (p := ⟨u.b, 0, none⟩) (if_pos (α := Value) (t := (.pointer (some ⟨u.b, 0, none⟩))) (e := undef) hp) ⟨rfl, rfl⟩) ?_
      refine xl_may (P := Try.prog) (some 82) (j := 4) (b := true) (((decide (((i : Nat) : Int) < (((os.length : Nat) : Int))))) = true) (.bool (decide (((i : Nat) : Int) < (((os.length : Nat) : Int))))) (.pointer (some ⟨u.b, 0, none⟩)) rfl rfl rfl (may_b ((decide (((i : Nat) : Int) < (((os.length : Nat) : Int))))) true) (fun hp => ox_fieldAddr (b := u.b) (o := 0) tF_86_0 (if_pos (α := Value) (t := (.pointer (some ⟨u.b, 0, none⟩))) (e := undef) hp) ⟨rfl, rfl⟩) ?_
      refine xl_may (P := Try.prog) (some 83) (j := 4) (b := true) (((decide (((i : Nat) : Int) < (((os.length : Nat) : Int))))) = true) (.bool (decide (((i : Nat) : Int) < (((os.length : Nat) : Int))))) (.int .i64 u.id) rfl rfl rfl (may_b ((decide (((i : Nat) : Int) < (((os.length : Nat) : Int))))) true) (fun hp => ox_load (v := (.int .i64 u.id)) tA_3 (if_pos (α := Value) (t := (.pointer (some ⟨u.b, 0, none⟩))) (e := undef) hp) ((hbu.ext (Ext.trans hEx1 x_f1)).cell rfl) ⟨rfl, rfl⟩) ?_
      refine xl_may (P := Try.prog) (some 84) (j := 4) (b := true) (((decide (((i : Nat) : Int) < (((os.length : Nat) : Int))))) = true) (.bool (decide (((i : Nat) : Int) < (((os.length : Nat) : Int))))) (.bool (decide ((u.id : Int) = 0))) rfl rfl rfl (may_b ((decide (((i : Nat) : Int) < (((os.length : Nat) : Int))))) true) (fun hp => ox_eql (k := .i64) (a := u.id) (b := 0) (if_pos (α := Value) (t := (.int .i64 u.id)) (e := undef) hp) rfl ⟨rfl, rfl⟩) ?_
      refine xl_op (P := Try.prog) (some 85) rfl rfl (ox_pick_and (a := ((decide (((i : Nat) : Int) < (((os.length : Nat) : Int)))))) (b := ((decide ((u.id : Int) = 0)))) rfl (fun ha => (if_pos (α := Value) (t := (.bool (decide ((u.id : Int) = 0)))) (e := undef) ha)) rfl ?_)
      refine xl_nil ?_
      refine xc_cond (b := (((decide (((i : Nat) : Int) < (((os.length : Nat) : Int))))) && ((decide ((u.id : Int) = 0))))) rfl (fun h2 => ?_) (fun h2 => ?_)
      · skip
        have h2' := h2
        try simp only [Bool.or_eq_true, Bool.and_eq_true, decide_eq_true_eq, Bool.or_eq_false_iff, Bool.and_eq_false_iff, decide_eq_false_iff_not, Bool.not_eq_true', Bool.not_eq_false'] at h2'
        have hil : i < os.length := by omega
        obtain ⟨x, hx⟩ := get_ex (l := os) (i := i) hil
        have hxm := hos x (List.mem_of_getElem? hx)
        have hu0 : u.id = 0 := by omega
        obtain ⟨go, oo, rfl⟩ := hO.ex (by intro hh; cases os with | nil => simp at hx | cons q l => simp at hh)
        have hcx : w.cell? ⟨go, oo + i, none⟩ = some (.int .i64 x) := cellsL_get hO.cells (by simp [hx])
        have hxt : ¬ ((x : Int) = t.id) := by rw [hidu] at hu0; split at hu0 <;> omega
        refine xc_skip ?_
        refine xc_seq ?_
        refine xc_block ?_
        refine xc_seq ?_
        refine xc_regionE [] (fun W_ => Chg (fun _ => False) w6 W_) hmix ?_
        intro w7 e6 z5
        have hS3 : Chg (fun _ => False) w6 w7 := Ext.to e6
        refine xd_pure 0 (some 88) rfl rfl (by kernel_rfl) (v := (.slice (some ⟨go, oo, none⟩) os.length co)) (.inl ⟨rfl, fun W_ hW_ => ox_move (v := (.slice (some ⟨go, oo, none⟩) os.length co)) g2_f1 ⟨rfl, rfl⟩⟩) ?_
        refine xd_pure 1 (some 89) rfl rfl (by kernel_rfl) (v := (.int .i64 ((i : Nat)))) (.inl ⟨rfl, fun W_ hW_ => ox_move (v := (.int .i64 ((i : Nat)))) g9_f1 ⟨rfl, rfl⟩⟩) ?_
        refine xd_pure 2 (some 90) rfl rfl (by kernel_rfl) (v := (.pointer (some ⟨go, oo + ((i : Nat) : Int).toNat * 1, none⟩))) (.inl ⟨rfl, fun W_ hW_ => ox_indexAddr (b := go) (o := oo) (i := ((i : Nat))) tE_42 rfl rfl (by omega) (by omega) ⟨rfl, rfl⟩⟩) ?_
        refine xd_take 3 (some 91) rfl rfl (by kernel_rfl) (v := (.int .i64 x)) (.inl ⟨rfl, fun W_ hW_ => ox_load (v := (.int .i64 x)) tA_3 rfl (by simpa using Ext.cell hcx (Ext.trans (Ext.trans hEx1 x_f1) hW_)) ⟨rfl, rfl⟩⟩) hS3 ?_
        refine xd_pure 4 (some 92) rfl rfl (by kernel_rfl) (v := (.pointer (some ⟨t.b, 0, none⟩))) (.inl ⟨rfl, fun W_ hW_ => ox_move (v := (.pointer (some ⟨t.b, 0, none⟩))) g0_f1 ⟨rfl, rfl⟩⟩) ?_
        refine xd_take 5 (some 93) rfl rfl (by kernel_rfl) (v := (.int .i64 t.id)) (.inl ⟨rfl, fun W_ hW_ => ox_callE (al := [(.pointer (some ⟨t.b, 0, none⟩))]) pf_40 rfl (ret_mono (number_calls stv t W_ (hP.ext (Ext.trans (Ext.trans hEx1 x_f1) hW_))) (by rintro _ _ ⟨rfl, rfl⟩; exact ⟨rfl, rfl⟩))⟩) hS3 ?_
        refine xd_pure 6 (some 94) rfl rfl (by kernel_rfl) (v := (.bool (decide ((x : Int) = t.id)))) (.inl ⟨rfl, fun W_ hW_ => ox_eql (k := .i64) (a := x) (b := t.id) rfl rfl ⟨rfl, rfl⟩⟩) ?_
        refine xd_done (by kernel_rfl) ?_ _
        refine xc_cond_f (congrArg Value.bool (decide_eq_false hxt)) ?_
        refine xc_skip ?_
        refine xc_region ?_
        refine xl_op (P := Try.prog) (some 86) rfl rfl (ox_move (v := (.int .i64 ((i : Nat)))) g9_f1 ?_)
        refine xl_op (P := Try.prog) (some 87) rfl rfl (ox_add64 (a := ((i : Nat))) (b := 1) rfl rfl (by omega) ?_)
        refine xl_op (P := Try.prog) (some 9) rfl rfl (ox_assign (v := (.int .i64 ((i : Nat) + 1))) rfl ?_)
        refine xl_nil ?_
        have hsz0 := e6.size
        exact ⟨rfl, os.length - (i + 1), by omega, i + 1, by omega, by omega, g0_f1, g1_f1, g2_f1, (by first | exact rfl | exact (congrArg (Value.int .i64) (by omega))), (Ext.trans x_f1 e6)⟩
      · skip
        have h2' := h2
        try simp only [Bool.or_eq_true, Bool.and_eq_true, decide_eq_true_eq, Bool.or_eq_false_iff, Bool.and_eq_false_iff, decide_eq_false_iff_not, Bool.not_eq_true', Bool.not_eq_false'] at h2'
        refine xc_exit ?_
        refine xc_seq ?_
        refine xc_seq ?_
        refine xc_region ?_
        refine xl_op (P := Try.prog) (some 10) rfl rfl (ox_assign (v := (.int .i64 0)) rfl ?_)
        refine xl_nil ?_
        refine xc_block ?_
        have hEx2 := (Ext.trans hEx1 x_f1)
        have hEx2z := hEx2.size
        refine xc_loopN (fun m f W => ∃ (j : Nat), m = t.kids.length - j ∧ j ≤ t.kids.length ∧ f 0 = (.pointer (some ⟨t.b, 0, none⟩)) ∧ f 1 = (.pointer (some ⟨u.b, 0, none⟩)) ∧ f 2 = (.slice Ao os.length co) ∧ f 10 = (.int .i64 ((j : Nat))) ∧ Ext w6 W) (t.kids.length) ?_ ?_
        · exact ⟨0, by omega, by omega, g0_f1, g1_f1, g2_f1, (by first | exact rfl | exact (congrArg (Value.int .i64) (by omega))), (Chg.refl _ _)⟩
        · rintro m f2 w8 ⟨j, hm, hj, g0_f2, g1_f2, g2_f2, g10_f2, x_f2⟩
          have hzY := x_f2.size
          refine xc_seq ?_
          refine xc_seq ?_
          refine xc_region ?_
          refine xl_op (P := Try.prog) (some 95) rfl rfl (ox_move (v := (.int .i64 ((j : Nat)))) g10_f2 ?_)
          refine xl_op (P := Try.prog) (some 96) rfl rfl (ox_move (v := (.pointer (some ⟨u.b, 0, none⟩))) g1_f2 ?_)
          refine xl_op (P := Try.prog) (some 97) rfl rfl (ox_nilCheck (p := ⟨u.b, 0, none⟩) rfl ?_)
          refine xl_op (P := Try.prog) (some 98) rfl rfl (ox_fieldAddr (b := u.b) (o := 0) tF_86_5 rfl ?_)
          refine xl_op (P := Try.prog) (some 99) rfl rfl (ox_load (v := (.slice ((u.ka.map fun k => ⟨k, 0, none⟩)) t.kids.length u.kc)) tA_29 rfl ((hbu.ext (Ext.trans hEx2 x_f2)).cell rfl) ?_)
          refine xl_op (P := Try.prog) (some 100) rfl rfl (ox_len (A := ((u.ka.map fun k => ⟨k, 0, none⟩))) (n := t.kids.length) (cp := u.kc) rfl tU_29 rfl ?_)
          refine xl_op (P := Try.prog) (some 101) rfl rfl (ox_lss (k := .i64) (a := ((j : Nat))) (b := (((t.kids.length : Nat) : Int))) rfl rfl ?_)
          refine xl_nil ?_
          refine xc_if (p := ((j : Nat) : Int) < (((t.kids.length : Nat) : Int))) rfl (fun h3 => ?_) (fun h3 => ?_)
          · skip
            have hjl : j < t.kids.length := by omega
            obtain ⟨kt, hkt⟩ := get_ex (l := t.kids) (i := j) hjl
            obtain ⟨ku, hku⟩ := get_ex (l := u.kids) (i := j) (by omega)
            obtain ⟨k1, hk1⟩ := hP.ka_some (by intro h0; rw [h0] at hkt; simp at hkt)
            obtain ⟨k2, hk2⟩ := hR.ka_some (by intro h0; rw [h0] at hku; simp at hku)
            have hcu : w.cell? ⟨k2, j, none⟩ = some ku.ptr := hR.kid hk2 hku
            have hbu2 : Blk w8 u.b #[(.int .i64 u.id), (.int .i64 t.kind), (.int .i64 t.n), (.int .i64 (sz u)), (.int .i64 t.lf.kind), (.int .i64 t.lf.skip), (.int .i64 t.lf.len), (.int .i64 t.lf.reach), (.slice (some ⟨k2, 0, none⟩) t.kids.length u.kc)] 86 := by have h9 := (hbu.ext (Ext.trans hEx2 x_f2)); rw [hk2] at h9; exact h9
            refine xc_skip ?_
            refine xc_seq ?_
            refine xc_block ?_
            refine xc_seq ?_
            refine xc_region ?_
            refine xl_op (P := Try.prog) (some 105) rfl rfl (ox_move (v := (.pointer (some ⟨t.b, 0, none⟩))) g0_f2 ?_)
            refine xl_op (P := Try.prog) (some 106) rfl rfl (ox_move (v := (.int .i64 ((j : Nat)))) g10_f2 ?_)
            refine xl_op (P := Try.prog) (some 107) rfl rfl (ox_callE (al := [(.pointer (some ⟨t.b, 0, none⟩)), (.int .i64 ((j : Nat)))]) pf_52 rfl (ret_mono (kid_in stv t kt k1 j w8 (hP.ext (Ext.trans hEx2 x_f2)) hk1 hkt hl4) ?_))
            rintro _ w9 ⟨rfl, e7⟩
            have he7 := e7.size
            refine xl_op (P := Try.prog) (some 104) rfl rfl (ox_move (v := (.tuple #[(.pointer (some ⟨kt.b, 0, none⟩)), (.bool true)])) rfl ?_)
            refine xl_op (P := Try.prog) (some 108) rfl rfl (ox_extract (vs := #[(.pointer (some ⟨kt.b, 0, none⟩)), (.bool true)]) (v := (.pointer (some ⟨kt.b, 0, none⟩))) rfl rfl ?_)
            refine xl_op (P := Try.prog) (some 109) rfl rfl (ox_extract (vs := #[(.pointer (some ⟨kt.b, 0, none⟩)), (.bool true)]) (v := (.bool true)) rfl rfl ?_)
            refine xl_op (P := Try.prog) (some 11) rfl rfl (ox_assign (v := (.pointer (some ⟨kt.b, 0, none⟩))) rfl ?_)
            refine xl_op (P := Try.prog) (some 12) rfl rfl (ox_assign (v := (.bool true)) rfl ?_)
            refine xl_nil ?_
            refine xc_seq ?_
            refine xc_region ?_
            refine xl_op (P := Try.prog) (some 110) rfl rfl (ox_move (v := (.bool true)) rfl ?_)
            refine xl_op (P := Try.prog) (some 111) rfl rfl (ox_not (b := true) rfl ?_)
            refine xl_op (P := Try.prog) (some 112) rfl rfl (ox_move (v := (.bool false)) rfl ?_)
            refine xl_opg (P := Try.prog) (some 113) (j := 2) (b := false) rfl rfl rfl (ox_move (v := (.pointer (some ⟨kt.b, 0, none⟩))) rfl ?_)
            refine xl_opg (P := Try.prog) (some 114) (j := 2) (b := false) rfl rfl rfl (ox_eqlNil (p := (some ⟨kt.b, 0, none⟩ : Option Addr)) (q := none) tU_36 rfl rfl (.inr rfl) ?_)
            refine xl_op (P := Try.prog) (some 115) rfl rfl (ox_pick_f (v := (.bool (decide ((some ⟨kt.b, 0, none⟩ : Option Addr) = none)))) rfl rfl ?_)
            refine xl_op (P := Try.prog) (some 116) rfl rfl (ox_move (v := (.bool (decide ((some ⟨kt.b, 0, none⟩ : Option Addr) = none)))) rfl ?_)
            refine xl_opg (P := Try.prog) (some 117) (j := 6) (b := false) rfl rfl (congrArg some (decide_eq_false (by simp))) (ox_move (v := (.pointer (some ⟨kt.b, 0, none⟩))) rfl ?_)
            refine xl_opg (P := Try.prog) (some 118) (j := 6) (b := false) rfl rfl (congrArg some (decide_eq_false (by simp))) (ox_move (v := (.pointer (some ⟨u.b, 0, none⟩))) g1_f2 ?_)
            refine xl_opg (P := Try.prog) (some 119) (j := 6) (b := false) rfl rfl (congrArg some (decide_eq_false (by simp))) (ox_nilCheck (p := ⟨u.b, 0, none⟩) rfl ?_)
            refine xl_opg (P := Try.prog) (some 120) (j := 6) (b := false) rfl rfl (congrArg some (decide_eq_false (by simp))) (ox_fieldAddr (b := u.b) (o := 0) tF_86_5 rfl ?_)
            refine xl_opg (P := Try.prog) (some 121) (j := 6) (b := false) rfl rfl (congrArg some (decide_eq_false (by simp))) (ox_load (v := (.slice (some ⟨k2, 0, none⟩) t.kids.length u.kc)) tA_29 rfl ((hbu2.ext e7).cell rfl) ?_)
            refine xl_opg (P := Try.prog) (some 122) (j := 6) (b := false) rfl rfl (congrArg some (decide_eq_false (by simp))) (ox_move (v := (.int .i64 ((j : Nat)))) g10_f2 ?_)
            refine xl_opg (P := Try.prog) (some 123) (j := 6) (b := false) rfl rfl (congrArg some (decide_eq_false (by simp))) (ox_indexAddr (b := k2) (o := 0) (i := ((j : Nat))) tE_29 rfl rfl (by omega) (by omega) ?_)
            refine xl_opg (P := Try.prog) (some 124) (j := 6) (b := false) rfl rfl (congrArg some (decide_eq_false (by simp))) (ox_load (v := (.pointer (some ⟨ku.b, 0, none⟩))) tA_38 rfl (by simpa [T.ptr] using Ext.cell hcu (Ext.trans (Ext.trans hEx2 x_f2) e7)) ?_)
            refine xl_opg (P := Try.prog) (some 125) (j := 6) (b := false) rfl rfl (congrArg some (decide_eq_false (by simp))) (ox_move (v := (.slice Ao os.length co)) g2_f2 ?_)
            refine xl_opg (P := Try.prog) (some 126) (j := 6) (b := false) rfl rfl (congrArg some (decide_eq_false (by simp))) (ox_callE (al := [(.pointer (some ⟨kt.b, 0, none⟩)), (.pointer (some ⟨ku.b, 0, none⟩)), (.slice Ao os.length co)]) pf_37 rfl (ret_mono (ih kt ku (List.mem_of_getElem? hkt) w9 ((hP.kids.get hkt).ext (Ext.trans (Ext.trans hEx2 x_f2) e7)) ((hR.kids.get hku).ext (Ext.trans (Ext.trans hEx2 x_f2) e7)) (hkid j kt ku hkt hku) (fun y hy => hid y (nodes_kids (List.mem_of_getElem? hkt) hy)) (RowA.ext hO (Ext.trans (Ext.trans hEx2 x_f2) e7))) ?_))
            rintro _ w10 ⟨rfl, e8⟩
            have he8 := e8.size
            refine xl_opg (P := Try.prog) (some 127) (j := 6) (b := false) rfl rfl (congrArg some (decide_eq_false (by simp))) (ox_not (b := true) rfl ?_)
            refine xl_op (P := Try.prog) (some 128) rfl rfl (ox_pick_f (v := (.bool false)) (congrArg Value.bool (decide_eq_false (by simp))) rfl ?_)
            refine xl_nil ?_
            refine xc_cond_f rfl ?_
            refine xc_skip ?_
            refine xc_region ?_
            refine xl_op (P := Try.prog) (some 102) rfl rfl (ox_move (v := (.int .i64 ((j : Nat)))) g10_f2 ?_)
            refine xl_op (P := Try.prog) (some 103) rfl rfl (ox_add64 (a := ((j : Nat))) (b := 1) rfl rfl (by omega) ?_)
            refine xl_op (P := Try.prog) (some 10) rfl rfl (ox_assign (v := (.int .i64 ((j : Nat) + 1))) rfl ?_)
            refine xl_nil ?_
            have hsz0 := e7.size
            have hsz1 := e8.size
            exact ⟨rfl, t.kids.length - (j + 1), by omega, j + 1, by omega, by omega, g0_f2, g1_f2, g2_f2, (by first | exact rfl | exact (congrArg (Value.int .i64) (by omega))), (Ext.trans (Ext.trans x_f2 e7) e8)⟩
          · skip
            refine xc_exit ?_
            refine xc_seq ?_
            refine xc_region ?_
            refine xl_op (P := Try.prog) (some 6) rfl rfl (ox_assign (v := (.bool true)) rfl ?_)
            refine xl_nil ?_
            refine xc_ret ?_
            change leaves _ _ _ _ _ _ _
            refine leaves_nil (n := 129) (rs := [.tmp 6]) (vs := [(.bool true)]) rfl ⟨⟨by decide, rfl⟩, trivial⟩ ?_
            exact ⟨rfl, (Ext.trans hEx2 x_f2)⟩
  · skip
    refine xc_regionE [] (fun W_ => Chg (fun _ => False) w4 W_) hmix ?_
    intro w11 e9 z6
    have hS4 : Chg (fun _ => False) w4 w11 := Ext.to e9
    refine xd_pure 0 (some 61) rfl rfl (by kernel_rfl) (v := (.pointer (some ⟨u.b, 0, none⟩))) (.inl ⟨rfl, fun W_ hW_ => ox_move (v := (.pointer (some ⟨u.b, 0, none⟩))) rfl ⟨rfl, rfl⟩⟩) ?_
    refine xd_pure 1 (some 62) rfl rfl (by kernel_rfl) (v := (.pointer (some ⟨u.b, 0, none⟩))) (.inl ⟨rfl, fun W_ hW_ => ox_nilCheck (p := ⟨u.b, 0, none⟩) rfl ⟨rfl, rfl⟩⟩) ?_
    refine xd_pure 2 (some 63) rfl rfl (by kernel_rfl) (v := (.pointer (some ⟨u.b, 0, none⟩))) (.inl ⟨rfl, fun W_ hW_ => ox_fieldAddr (b := u.b) (o := 0) tF_86_0 rfl ⟨rfl, rfl⟩⟩) ?_
    have q8 := (((hbu.ext e1).ext e2).keep1 e3 (((hbu.ext e1).ext e2).ne b1 (by decide)))
    refine xd_take 3 (some 64) rfl rfl (by kernel_rfl) (v := (.int .i64 u.id)) (.inl ⟨rfl, fun W_ hW_ => ox_load (v := (.int .i64 u.id)) tA_3 rfl (((q8.ext e4).ext hW_).cell rfl) ⟨rfl, rfl⟩⟩) hS4 ?_
    refine xd_pure 4 (some 65) rfl rfl (by kernel_rfl) (v := (.bool (decide ((u.id : Int) ≠ 0)))) (.inl ⟨rfl, fun W_ hW_ => ox_neq (k := .i64) (a := u.id) (b := 0) rfl rfl ⟨rfl, rfl⟩⟩) ?_
    refine xd_pure 5 (some 66) rfl rfl (by kernel_rfl) (v := (.bool (decide ((u.id : Int) ≠ 0)))) (.inl ⟨rfl, fun W_ hW_ => ox_move (v := (.bool (decide ((u.id : Int) ≠ 0)))) rfl ⟨rfl, rfl⟩⟩) ?_
    refine xd_pure 6 (some 67) rfl rfl (by kernel_rfl) (v := undef) (.inr ⟨(wanted_not (j := 5) (b := true) (c := false) rfl (congrArg some (decide_eq_false h1)) (by decide)), rfl⟩) ?_
    refine xd_take 7 (some 68) rfl rfl (by kernel_rfl) (v := undef) (.inr ⟨(wanted_not (j := 5) (b := true) (c := false) rfl (congrArg some (decide_eq_false h1)) (by decide)), rfl⟩) hS4 ?_
    refine xd_pure 8 (some 69) rfl rfl (by kernel_rfl) (v := undef) (.inr ⟨(wanted_not (j := 5) (b := true) (c := false) rfl (congrArg some (decide_eq_false h1)) (by decide)), rfl⟩) ?_
    refine xd_pure 9 (some 70) rfl rfl (by kernel_rfl) (v := undef) (.inr ⟨(wanted_not (j := 5) (b := true) (c := false) rfl (congrArg some (decide_eq_false h1)) (by decide)), rfl⟩) ?_
    refine xd_pure 10 (some 71) rfl rfl (by kernel_rfl) (v := undef) (.inr ⟨(wanted_not (j := 5) (b := true) (c := false) rfl (congrArg some (decide_eq_false h1)) (by decide)), rfl⟩) ?_
    refine xd_take 11 (some 72) rfl rfl (by kernel_rfl) (v := undef) (.inr ⟨(wanted_not (j := 5) (b := true) (c := false) rfl (congrArg some (decide_eq_false h1)) (by decide)), rfl⟩) hS4 ?_
    refine xd_pure 12 (some 73) rfl rfl (by kernel_rfl) (v := undef) (.inr ⟨(wanted_not (j := 5) (b := true) (c := false) rfl (congrArg some (decide_eq_false h1)) (by decide)), rfl⟩) ?_
    refine xd_pure 13 (some 74) rfl rfl (by kernel_rfl) (v := (.bool false)) (.inl ⟨rfl, fun W_ hW_ => ox_pick_f (v := (.bool false)) (congrArg Value.bool (decide_eq_false h1)) rfl ⟨rfl, rfl⟩⟩) ?_
    refine xd_done (by kernel_rfl) ?_ _
    refine xc_cond_f rfl ?_
    refine xc_skip ?_
    refine xc_seq ?_
    refine xc_seq ?_
    refine xc_region ?_
    refine xl_op (P := Try.prog) (some 9) rfl rfl (ox_assign (v := (.int .i64 0)) rfl ?_)
    refine xl_nil ?_
    refine xc_block ?_
    have hEx3 := (Ext.trans (Ext.trans (Ext.chg1 (Ext.trans e1 e2) e3 (by omega)) e4) e9)
    have hEx3z := hEx3.size
    refine xc_loopN (fun m f W => ∃ (i : Nat), m = os.length - i ∧ i ≤ os.length ∧ f 0 = (.pointer (some ⟨t.b, 0, none⟩)) ∧ f 1 = (.pointer (some ⟨u.b, 0, none⟩)) ∧ f 2 = (.slice Ao os.length co) ∧ f 9 = (.int .i64 ((i : Nat))) ∧ Ext w11 W) (os.length) ?_ ?_
    · exact ⟨0, by omega, by omega, rfl, rfl, rfl, (by first | exact rfl | exact (congrArg (Value.int .i64) (by omega))), (Chg.refl _ _)⟩
    · rintro m f3 w12 ⟨i, hm, hi, g0_f3, g1_f3, g2_f3, g9_f3, x_f3⟩
      have hzX := x_f3.size
      refine xc_seq ?_
      refine xc_seq ?_
      refine xc_region ?_
      refine xl_op (P := Try.prog) (some 75) rfl rfl (ox_move (v := (.int .i64 ((i : Nat)))) g9_f3 ?_)
      refine xl_op (P := Try.prog) (some 76) rfl rfl (ox_move (v := (.slice Ao os.length co)) g2_f3 ?_)
      refine xl_op (P := Try.prog) (some 77) rfl rfl (ox_len (A := Ao) (n := os.length) (cp := co) rfl tU_42 rfl ?_)
      refine xl_op (P := Try.prog) (some 78) rfl rfl (ox_lss (k := .i64) (a := ((i : Nat))) (b := (((os.length : Nat) : Int))) rfl rfl ?_)
      refine xl_op (P := Try.prog) (some 79) rfl rfl (ox_move (v := (.bool (decide (((i : Nat) : Int) < (((os.length : Nat) : Int)))))) rfl ?_)
      refine xl_may (P := Try.prog) (some 80) (j := 4) (b := true) (((decide (((i : Nat) : Int) < (((os.length : Nat) : Int))))) = true) (.bool (decide (((i : Nat) : Int) < (((os.length : Nat) : Int))))) (.pointer (some ⟨u.b, 0, none⟩)) rfl rfl rfl (may_b ((decide (((i : Nat) : Int) < (((os.length : Nat) : Int))))) true) (fun hp => ox_move (v := (.pointer (some ⟨u.b, 0, none⟩))) g1_f3 ⟨rfl, rfl⟩) ?_
      refine xl_may (P := Try.prog) (some 81) (j := 4) (b := true) (((decide (((i : Nat) : Int) < (((os.length : Nat) : Int))))) = true) (.bool (decide (((i : Nat) : Int) < (((os.length : Nat) : Int))))) (.pointer (some ⟨u.b, 0, none⟩)) rfl rfl rfl (may_b ((decide (((i : Nat) : Int) < (((os.length : Nat) : Int))))) true) (fun hp => ox_nilCheck (p := ⟨u.b, 0, none⟩) (if_pos (α := Value) (t := (.pointer (some ⟨u.b, 0, none⟩))) (e := undef) hp) ⟨rfl, rfl⟩) ?_
      refine xl_may (P := Try.prog) (some 82) (j := 4) (b := true) (((decide (((i : Nat) : Int) < (((os.length : Nat) : Int))))) = true) (.bool (decide (((i : Nat) : Int) < (((os.length : Nat) : Int))))) (.pointer (some ⟨u.b, 0, none⟩)) rfl rfl rfl (may_b ((decide (((i : Nat) : Int) < (((os.length : Nat) : Int))))) true) (fun hp => ox_fieldAddr (b := u.b) (o := 0) tF_86_0 (if_pos (α := Value) (t := (.pointer (some ⟨u.b, 0, none⟩))) (e := undef) hp) ⟨rfl, rfl⟩) ?_
      refine xl_may (P := Try.prog) (some 83) (j := 4) (b := true) (((decide (((i : Nat) : Int) < (((os.length : Nat) : Int))))) = true) (.bool (decide (((i : Nat) : Int) < (((os.length : Nat) : Int))))) (.int .i64 u.id) rfl rfl rfl (may_b ((decide (((i : Nat) : Int) < (((os.length : Nat) : Int))))) true) (fun hp => ox_load (v := (.int .i64 u.id)) tA_3 (if_pos (α := Value) (t := (.pointer (some ⟨u.b, 0, none⟩))) (e := undef) hp) ((hbu.ext (Ext.trans hEx3 x_f3)).cell rfl) ⟨rfl, rfl⟩) ?_
      refine xl_may (P := Try.prog) (some 84) (j := 4) (b := true) (((decide (((i : Nat) : Int) < (((os.length : Nat) : Int))))) = true) (.bool (decide (((i : Nat) : Int) < (((os.length : Nat) : Int))))) (.bool (decide ((u.id : Int) = 0))) rfl rfl rfl (may_b ((decide (((i : Nat) : Int) < (((os.length : Nat) : Int))))) true) (fun hp => ox_eql (k := .i64) (a := u.id) (b := 0) (if_pos (α := Value) (t := (.int .i64 u.id)) (e := undef) hp) rfl ⟨rfl, rfl⟩) ?_
      refine xl_op (P := Try.prog) (some 85) rfl rfl (ox_pick_and (a := ((decide (((i : Nat) : Int) < (((os.length : Nat) : Int)))))) (b := ((decide ((u.id : Int) = 0)))) rfl (fun ha => (if_pos (α := Value) (t := (.bool (decide ((u.id : Int) = 0)))) (e := undef) ha)) rfl ?_)
      refine xl_nil ?_
      refine xc_cond (b := (((decide (((i : Nat) : Int) < (((os.length : Nat) : Int))))) && ((decide ((u.id : Int) = 0))))) rfl (fun h4 => ?_) (fun h4 => ?_)
      · skip
        have h4' := h4
        try simp only [Bool.or_eq_true, Bool.and_eq_true, decide_eq_true_eq, Bool.or_eq_false_iff, Bool.and_eq_false_iff, decide_eq_false_iff_not, Bool.not_eq_true', Bool.not_eq_false'] at h4'
        have hil : i < os.length := by omega
        obtain ⟨x, hx⟩ := get_ex (l := os) (i := i) hil
        have hxm := hos x (List.mem_of_getElem? hx)
        have hu0 : u.id = 0 := by omega
        obtain ⟨go, oo, rfl⟩ := hO.ex (by intro hh; cases os with | nil => simp at hx | cons q l => simp at hh)
        have hcx : w.cell? ⟨go, oo + i, none⟩ = some (.int .i64 x) := cellsL_get hO.cells (by simp [hx])
        have hxt : ¬ ((x : Int) = t.id) := by rw [hidu] at hu0; split at hu0 <;> omega
        refine xc_skip ?_
        refine xc_seq ?_
        refine xc_block ?_
        refine xc_seq ?_
        refine xc_regionE [] (fun W_ => Chg (fun _ => False) w12 W_) hmix ?_
        intro w13 e10 z7
        have hS5 : Chg (fun _ => False) w12 w13 := Ext.to e10
        refine xd_pure 0 (some 88) rfl rfl (by kernel_rfl) (v := (.slice (some ⟨go, oo, none⟩) os.length co)) (.inl ⟨rfl, fun W_ hW_ => ox_move (v := (.slice (some ⟨go, oo, none⟩) os.length co)) g2_f3 ⟨rfl, rfl⟩⟩) ?_
        refine xd_pure 1 (some 89) rfl rfl (by kernel_rfl) (v := (.int .i64 ((i : Nat)))) (.inl ⟨rfl, fun W_ hW_ => ox_move (v := (.int .i64 ((i : Nat)))) g9_f3 ⟨rfl, rfl⟩⟩) ?_
        refine xd_pure 2 (some 90) rfl rfl (by kernel_rfl) (v := (.pointer (some ⟨go, oo + ((i : Nat) : Int).toNat * 1, none⟩))) (.inl ⟨rfl, fun W_ hW_ => ox_indexAddr (b := go) (o := oo) (i := ((i : Nat))) tE_42 rfl rfl (by omega) (by omega) ⟨rfl, rfl⟩⟩) ?_
        refine xd_take 3 (some 91) rfl rfl (by kernel_rfl) (v := (.int .i64 x)) (.inl ⟨rfl, fun W_ hW_ => ox_load (v := (.int .i64 x)) tA_3 rfl (by simpa using Ext.cell hcx (Ext.trans (Ext.trans hEx3 x_f3) hW_)) ⟨rfl, rfl⟩⟩) hS5 ?_
        refine xd_pure 4 (some 92) rfl rfl (by kernel_rfl) (v := (.pointer (some ⟨t.b, 0, none⟩))) (.inl ⟨rfl, fun W_ hW_ => ox_move (v := (.pointer (some ⟨t.b, 0, none⟩))) g0_f3 ⟨rfl, rfl⟩⟩) ?_
        refine xd_take 5 (some 93) rfl rfl (by kernel_rfl) (v := (.int .i64 t.id)) (.inl ⟨rfl, fun W_ hW_ => ox_callE (al := [(.pointer (some ⟨t.b, 0, none⟩))]) pf_40 rfl (ret_mono (number_calls stv t W_ (hP.ext (Ext.trans (Ext.trans hEx3 x_f3) hW_))) (by rintro _ _ ⟨rfl, rfl⟩; exact ⟨rfl, rfl⟩))⟩) hS5 ?_
        refine xd_pure 6 (some 94) rfl rfl (by kernel_rfl) (v := (.bool (decide ((x : Int) = t.id)))) (.inl ⟨rfl, fun W_ hW_ => ox_eql (k := .i64) (a := x) (b := t.id) rfl rfl ⟨rfl, rfl⟩⟩) ?_
        refine xd_done (by kernel_rfl) ?_ _
        refine xc_cond_f (congrArg Value.bool (decide_eq_false hxt)) ?_
        refine xc_skip ?_
        refine xc_region ?_
        refine xl_op (P := Try.prog) (some 86) rfl rfl (ox_move (v := (.int .i64 ((i : Nat)))) g9_f3 ?_)
        refine xl_op (P := Try.prog) (some 87) rfl rfl (ox_add64 (a := ((i : Nat))) (b := 1) rfl rfl (by omega) ?_)
        refine xl_op (P := Try.prog) (some 9) rfl rfl (ox_assign (v := (.int .i64 ((i : Nat) + 1))) rfl ?_)
        refine xl_nil ?_
        have hsz0 := e10.size
        exact ⟨rfl, os.length - (i + 1), by omega, i + 1, by omega, by omega, g0_f3, g1_f3, g2_f3, (by first | exact rfl | exact (congrArg (Value.int .i64) (by omega))), (Ext.trans x_f3 e10)⟩
      · skip
        have h4' := h4
        try simp only [Bool.or_eq_true, Bool.and_eq_true, decide_eq_true_eq, Bool.or_eq_false_iff, Bool.and_eq_false_iff, decide_eq_false_iff_not, Bool.not_eq_true', Bool.not_eq_false'] at h4'
        refine xc_exit ?_
        refine xc_seq ?_
        refine xc_seq ?_
        refine xc_region ?_
        refine xl_op (P := Try.prog) (some 10) rfl rfl (ox_assign (v := (.int .i64 0)) rfl ?_)
        refine xl_nil ?_
        refine xc_block ?_
        have hEx4 := (Ext.trans hEx3 x_f3)
        have hEx4z := hEx4.size
        refine xc_loopN (fun m f W => ∃ (j : Nat), m = t.kids.length - j ∧ j ≤ t.kids.length ∧ f 0 = (.pointer (some ⟨t.b, 0, none⟩)) ∧ f 1 = (.pointer (some ⟨u.b, 0, none⟩)) ∧ f 2 = (.slice Ao os.length co) ∧ f 10 = (.int .i64 ((j : Nat))) ∧ Ext w12 W) (t.kids.length) ?_ ?_
        · exact ⟨0, by omega, by omega, g0_f3, g1_f3, g2_f3, (by first | exact rfl | exact (congrArg (Value.int .i64) (by omega))), (Chg.refl _ _)⟩
        · rintro m f4 w14 ⟨j, hm, hj, g0_f4, g1_f4, g2_f4, g10_f4, x_f4⟩
          have hzY := x_f4.size
          refine xc_seq ?_
          refine xc_seq ?_
          refine xc_region ?_
          refine xl_op (P := Try.prog) (some 95) rfl rfl (ox_move (v := (.int .i64 ((j : Nat)))) g10_f4 ?_)
          refine xl_op (P := Try.prog) (some 96) rfl rfl (ox_move (v := (.pointer (some ⟨u.b, 0, none⟩))) g1_f4 ?_)
          refine xl_op (P := Try.prog) (some 97) rfl rfl (ox_nilCheck (p := ⟨u.b, 0, none⟩) rfl ?_)
          refine xl_op (P := Try.prog) (some 98) rfl rfl (ox_fieldAddr (b := u.b) (o := 0) tF_86_5 rfl ?_)
          refine xl_op (P := Try.prog) (some 99) rfl rfl (ox_load (v := (.slice ((u.ka.map fun k => ⟨k, 0, none⟩)) t.kids.length u.kc)) tA_29 rfl ((hbu.ext (Ext.trans hEx4 x_f4)).cell rfl) ?_)
          refine xl_op (P := Try.prog) (some 100) rfl rfl (ox_len (A := ((u.ka.map fun k => ⟨k, 0, none⟩))) (n := t.kids.length) (cp := u.kc) rfl tU_29 rfl ?_)
          refine xl_op (P := Try.prog) (some 101) rfl rfl (ox_lss (k := .i64) (a := ((j : Nat))) (b := (((t.kids.length : Nat) : Int))) rfl rfl ?_)
          refine xl_nil ?_
          refine xc_if (p := ((j : Nat) : Int) < (((t.kids.length : Nat) : Int))) rfl (fun h5 => ?_) (fun h5 => ?_)
          · skip
            have hjl : j < t.kids.length := by omega
            obtain ⟨kt, hkt⟩ := get_ex (l := t.kids) (i := j) hjl
            obtain ⟨ku, hku⟩ := get_ex (l := u.kids) (i := j) (by omega)
            obtain ⟨k1, hk1⟩ := hP.ka_some (by intro h0; rw [h0] at hkt; simp at hkt)
            obtain ⟨k2, hk2⟩ := hR.ka_some (by intro h0; rw [h0] at hku; simp at hku)
            have hcu : w.cell? ⟨k2, j, none⟩ = some ku.ptr := hR.kid hk2 hku
            have hbu2 : Blk w14 u.b #[(.int .i64 u.id), (.int .i64 t.kind), (.int .i64 t.n), (.int .i64 (sz u)), (.int .i64 t.lf.kind), (.int .i64 t.lf.skip), (.int .i64 t.lf.len), (.int .i64 t.lf.reach), (.slice (some ⟨k2, 0, none⟩) t.kids.length u.kc)] 86 := by have h9 := (hbu.ext (Ext.trans hEx4 x_f4)); rw [hk2] at h9; exact h9
            refine xc_skip ?_
            refine xc_seq ?_
            refine xc_block ?_
            refine xc_seq ?_
            refine xc_region ?_
            refine xl_op (P := Try.prog) (some 105) rfl rfl (ox_move (v := (.pointer (some ⟨t.b, 0, none⟩))) g0_f4 ?_)
            refine xl_op (P := Try.prog) (some 106) rfl rfl (ox_move (v := (.int .i64 ((j : Nat)))) g10_f4 ?_)
            refine xl_op (P := Try.prog) (some 107) rfl rfl (ox_callE (al := [(.pointer (some ⟨t.b, 0, none⟩)), (.int .i64 ((j : Nat)))]) pf_52 rfl (ret_mono (kid_in stv t kt k1 j w14 (hP.ext (Ext.trans hEx4 x_f4)) hk1 hkt hl4) ?_))
            rintro _ w15 ⟨rfl, e11⟩
            have he11 := e11.size
            refine xl_op (P := Try.prog) (some 104) rfl rfl (ox_move (v := (.tuple #[(.pointer (some ⟨kt.b, 0, none⟩)), (.bool true)])) rfl ?_)
            refine xl_op (P := Try.prog) (some 108) rfl rfl (ox_extract (vs := #[(.pointer (some ⟨kt.b, 0, none⟩)), (.bool true)]) (v := (.pointer (some ⟨kt.b, 0, none⟩))) rfl rfl ?_)
            refine xl_op (P := Try.prog) (some 109) rfl rfl (ox_extract (vs := #[(.pointer (some ⟨kt.b, 0, none⟩)), (.bool true)]) (v := (.bool true)) rfl rfl ?_)
            refine xl_op (P := Try.prog) (some 11) rfl rfl (ox_assign (v := (.pointer (some ⟨kt.b, 0, none⟩))) rfl ?_)
            refine xl_op (P := Try.prog) (some 12) rfl rfl (ox_assign (v := (.bool true)) rfl ?_)
            refine xl_nil ?_
            refine xc_seq ?_
            refine xc_region ?_
            refine xl_op (P := Try.prog) (some 110) rfl rfl (ox_move (v := (.bool true)) rfl ?_)
            refine xl_op (P := Try.prog) (some 111) rfl rfl (ox_not (b := true) rfl ?_)
            refine xl_op (P := Try.prog) (some 112) rfl rfl (ox_move (v := (.bool false)) rfl ?_)
            refine xl_opg (P := Try.prog) (some 113) (j := 2) (b := false) rfl rfl rfl (ox_move (v := (.pointer (some ⟨kt.b, 0, none⟩))) rfl ?_)
            refine xl_opg (P := Try.prog) (some 114) (j := 2) (b := false) rfl rfl rfl (ox_eqlNil (p := (some ⟨kt.b, 0, none⟩ : Option Addr)) (q := none) tU_36 rfl rfl (.inr rfl) ?_)
            refine xl_op (P := Try.prog) (some 115) rfl rfl (ox_pick_f (v := (.bool (decide ((some ⟨kt.b, 0, none⟩ : Option Addr) = none)))) rfl rfl ?_)
            refine xl_op (P := Try.prog) (some 116) rfl rfl (ox_move (v := (.bool (decide ((some ⟨kt.b, 0, none⟩ : Option Addr) = none)))) rfl ?_)
            refine xl_opg (P := Try.prog) (some 117) (j := 6) (b := false) rfl rfl (congrArg some (decide_eq_false (by simp))) (ox_move (v := (.pointer (some ⟨kt.b, 0, none⟩))) rfl ?_)
            refine xl_opg (P := Try.prog) (some 118) (j := 6) (b := false) rfl rfl (congrArg some (decide_eq_false (by simp))) (ox_move (v := (.pointer (some ⟨u.b, 0, none⟩))) g1_f4 ?_)
            refine xl_opg (P := Try.prog) (some 119) (j := 6) (b := false) rfl rfl (congrArg some (decide_eq_false (by simp))) (ox_nilCheck (p := ⟨u.b, 0, none⟩) rfl ?_)
            refine xl_opg (P := Try.prog) (some 120) (j := 6) (b := false) rfl rfl (congrArg some (decide_eq_false (by simp))) (ox_fieldAddr (b := u.b) (o := 0) tF_86_5 rfl ?_)
            refine xl_opg (P := Try.prog) (some 121) (j := 6) (b := false) rfl rfl (congrArg some (decide_eq_false (by simp))) (ox_load (v := (.slice (some ⟨k2, 0, none⟩) t.kids.length u.kc)) tA_29 rfl ((hbu2.ext e11).cell rfl) ?_)
            refine xl_opg (P := Try.prog) (some 122) (j := 6) (b := false) rfl rfl (congrArg some (decide_eq_false (by simp))) (ox_move (v := (.int .i64 ((j : Nat)))) g10_f4 ?_)
            refine xl_opg (P := Try.prog) (some 123) (j := 6) (b := false) rfl rfl (congrArg some (decide_eq_false (by simp))) (ox_indexAddr (b := k2) (o := 0) (i := ((j : Nat))) tE_29 rfl rfl (by omega) (by omega) ?_)
            refine xl_opg (P := Try.prog) (some 124) (j := 6) (b := false) rfl rfl (congrArg some (decide_eq_false (by simp))) (ox_load (v := (.pointer (some ⟨ku.b, 0, none⟩))) tA_38 rfl (by simpa [T.ptr] using Ext.cell hcu (Ext.trans (Ext.trans hEx4 x_f4) e11)) ?_)
            refine xl_opg (P := Try.prog) (some 125) (j := 6) (b := false) rfl rfl (congrArg some (decide_eq_false (by simp))) (ox_move (v := (.slice Ao os.length co)) g2_f4 ?_)
            refine xl_opg (P := Try.prog) (some 126) (j := 6) (b := false) rfl rfl (congrArg some (decide_eq_false (by simp))) (ox_callE (al := [(.pointer (some ⟨kt.b, 0, none⟩)), (.pointer (some ⟨ku.b, 0, none⟩)), (.slice Ao os.length co)]) pf_37 rfl (ret_mono (ih kt ku (List.mem_of_getElem? hkt) w15 ((hP.kids.get hkt).ext (Ext.trans (Ext.trans hEx4 x_f4) e11)) ((hR.kids.get hku).ext (Ext.trans (Ext.trans hEx4 x_f4) e11)) (hkid j kt ku hkt hku) (fun y hy => hid y (nodes_kids (List.mem_of_getElem? hkt) hy)) (RowA.ext hO (Ext.trans (Ext.trans hEx4 x_f4) e11))) ?_))
            rintro _ w16 ⟨rfl, e12⟩
            have he12 := e12.size
            refine xl_opg (P := Try.prog) (some 127) (j := 6) (b := false) rfl rfl (congrArg some (decide_eq_false (by simp))) (ox_not (b := true) rfl ?_)
            refine xl_op (P := Try.prog) (some 128) rfl rfl (ox_pick_f (v := (.bool false)) (congrArg Value.bool (decide_eq_false (by simp))) rfl ?_)
            refine xl_nil ?_
            refine xc_cond_f rfl ?_
            refine xc_skip ?_
            refine xc_region ?_
            refine xl_op (P := Try.prog) (some 102) rfl rfl (ox_move (v := (.int .i64 ((j : Nat)))) g10_f4 ?_)
            refine xl_op (P := Try.prog) (some 103) rfl rfl (ox_add64 (a := ((j : Nat))) (b := 1) rfl rfl (by omega) ?_)
            refine xl_op (P := Try.prog) (some 10) rfl rfl (ox_assign (v := (.int .i64 ((j : Nat) + 1))) rfl ?_)
            refine xl_nil ?_
            have hsz0 := e11.size
            have hsz1 := e12.size
            exact ⟨rfl, t.kids.length - (j + 1), by omega, j + 1, by omega, by omega, g0_f4, g1_f4, g2_f4, (by first | exact rfl | exact (congrArg (Value.int .i64) (by omega))), (Ext.trans (Ext.trans x_f4 e11) e12)⟩
          · skip
            refine xc_exit ?_
            refine xc_seq ?_
            refine xc_region ?_
            refine xl_op (P := Try.prog) (some 6) rfl rfl (ox_assign (v := (.bool true)) rfl ?_)
            refine xl_nil ?_
            refine xc_ret ?_
            change leaves _ _ _ _ _ _ _
            refine leaves_nil (n := 129) (rs := [.tmp 6]) (vs := [(.bool true)]) rfl ⟨⟨by decide, rfl⟩, trivial⟩ ?_
            exact ⟨rfl, (Ext.trans hEx4 x_f4)⟩

theorem alike_calls (stv : Value) (mm : Int) (os : List Int) (Ao : Option Addr) (co : Nat) (t u : T) (w : World) (hP : PN stv w t) (hR : PR w u) (hsk : skz mm t = skel u) (hid : ∀ x ∈ nodes t, 1 ≤ x.id) (hO : RowA w Ao (os.map fun i => .int .i64 i)) (hos : ∀ x ∈ os, x ≤ mm) (hon : os.length ≤ 4611686018427387904) (hz : sz t ≤ 4194304) :
    Calls Try.prog 37 #[.pointer (some ⟨t.b, 0, none⟩), .pointer (some ⟨u.b, 0, none⟩), .slice Ao os.length co] w (Ret fun v w' => v = .bool true ∧ Ext w w') := by
  have key : ∀ n : Nat, ∀ t : T, (sz t).toNat = n → ∀ (u : T) (w : World), PN stv w t → PR w u → skz mm t = skel u → (∀ x ∈ nodes t, 1 ≤ x.id) → RowA w Ao (os.map fun i => .int .i64 i) → sz t ≤ 4194304 →
      Calls Try.prog 37 #[.pointer (some ⟨t.b, 0, none⟩), .pointer (some ⟨u.b, 0, none⟩), .slice Ao os.length co] w (Ret fun v w' => v = .bool true ∧ Ext w w') := by
    intro n
    induction n using Nat.strongRecOn with
    | _ n ih =>
      intro t ht u w hP hR hsk hid hO hz
      refine alike_step stv mm os Ao co t u w hP hR hsk hid hO hos hon (by have h3 := sz_kids t; have h4 := szL_len t.kids; omega) fun k v hk W h1 h2 h3 h4 h5 => ih (sz k).toNat ?_ k rfl v W h1 h2 h3 h4 h5 ?_
      · have h1 := szL_mem hk; have h2 := sz_pos k; have h3 := sz_kids t; omega
      · have h1 := szL_mem hk; have h3 := sz_kids t; omega
  exact key _ t rfl u w hP hR hsk hid hO hz

end Go.Proofs.Ythhbnodnpajljaa
