/-
  Node.Walk as an iterator: the nodes of the tree, in their order, each with its place. No conditions.
-/
import Derived.Test.YthhbnodnpajljaaVxi
import Derived.Test.YthhbnodnpajljaaRows
import Derived.Test.YthhbnodnpajljaaDu
import Derived.Test.YthhbnodnpajljaaDa
import Derived.Test.YthhbnodnpajljaaDb
import Derived.Test.YthhbnodnpajljaaDf
import Derived.Test.YthhbnodnpajljaaDw
set_option linter.unusedVariables false
set_option linter.unusedSimpArgs false
set_option maxRecDepth 100000
set_option maxHeartbeats 4000000
namespace Go.Proofs.Ythhbnodnpajljaa
open Go Go.RowKit Go.Vx


theorem pf_70 : plainF Try.prog 70 = true := by kernel_rfl
theorem pf_73 : plainF Try.prog 73 = true := by kernel_rfl
theorem tA_150 : isAggT Try.prog 150 = some false := by kernel_rfl
theorem tE_150 : sliceT Try.prog 150 = some (36, 1, 8, (.pointer none)) := by kernel_rfl
theorem tS_150 : sizeT Try.prog 150 = some 1 := by kernel_rfl
theorem tU_150 : Try.prog.underlying 150 = some (.slice 36) := by kernel_rfl
theorem tZ_150 : zeroOf Try.prog 150 = some (.slice none 0 0) := by kernel_rfl

theorem backward_calls (A : Option Addr) (n c : Nat) (w : World)  :
    Calls Try.prog 70 #[(.slice A n c)] w (Ret (fun v w' => v = .func (.func 73) #[] #[.pointer (some ⟨w.heap.size, 0, none⟩)] ∧ Blk w' w.heap.size #[.slice A n c] 28 ∧ w'.heap.size = w.heap.size + 1 ∧ Ext w w')) := by
  refine calls_xc (n := 4) (f := fun s_ => [(.slice A n c)].getD s_ undef) Try.func70 rfl rfl (by simp) (fun s_ => by simp) ?_
  refine xc_seq ?_
  refine xc_region ?_
  refine xl_op (P := Try.prog) (some 1) rfl rfl (ox_box (v := (.slice A n c)) rfl ?_)
  intro w1 e1 z1 b1
  replace b1 : Blk w1 w.heap.size #[(.slice A n c)] 28 := b1
  refine xl_op (P := Try.prog) (some 2) rfl rfl (ox_assign (v := .nilFunc) rfl ?_)
  refine xl_nil ?_
  refine xc_seq ?_
  refine xc_region ?_
  refine xl_op (P := Try.prog) (some 3) rfl rfl (ox_mkFunc (cs := [(.pointer (some ⟨w.heap.size, 0, none⟩))]) rfl ?_)
  refine xl_op (P := Try.prog) (some 2) rfl rfl (ox_assign (v := (.func (.func 73) #[] #[(.pointer (some ⟨w.heap.size, 0, none⟩))])) rfl ?_)
  refine xl_nil ?_
  refine xc_ret ?_
  change leaves _ _ _ _ _ _ _
  refine leaves_nil (n := 4) (rs := [.tmp 2]) (vs := [(.func (.func 73) #[] #[(.pointer (some ⟨w.heap.size, 0, none⟩))])]) rfl ⟨⟨by decide, rfl⟩, trivial⟩ ?_
  exact ⟨rfl, b1, z1, e1⟩

theorem walkF_calls (b : Nat) (w : World)  :
    Calls Try.prog 57 #[(.pointer (some ⟨b, 0, none⟩))] w (Ret (fun v w' => v = .func (.func 69) #[] #[.pointer (some ⟨w.heap.size, 0, none⟩)] ∧ Blk w' w.heap.size #[.pointer (some ⟨b, 0, none⟩)] 36 ∧ w'.heap.size = w.heap.size + 1 ∧ Ext w w')) := by
  refine calls_xc (n := 4) (f := fun s_ => [(.pointer (some ⟨b, 0, none⟩))].getD s_ undef) Try.func57 rfl rfl (by simp) (fun s_ => by simp) ?_
  refine xc_seq ?_
  refine xc_region ?_
  refine xl_op (P := Try.prog) (some 1) rfl rfl (ox_box (v := (.pointer (some ⟨b, 0, none⟩))) rfl ?_)
  intro w1 e1 z1 b1
  replace b1 : Blk w1 w.heap.size #[(.pointer (some ⟨b, 0, none⟩))] 36 := b1
  refine xl_op (P := Try.prog) (some 2) rfl rfl (ox_assign (v := .nilFunc) rfl ?_)
  refine xl_nil ?_
  refine xc_seq ?_
  refine xc_region ?_
  refine xl_op (P := Try.prog) (some 3) rfl rfl (ox_mkFunc (cs := [(.pointer (some ⟨w.heap.size, 0, none⟩))]) rfl ?_)
  refine xl_op (P := Try.prog) (some 2) rfl rfl (ox_assign (v := (.func (.func 69) #[] #[(.pointer (some ⟨w.heap.size, 0, none⟩))])) rfl ?_)
  refine xl_nil ?_
  refine xc_ret ?_
  change leaves _ _ _ _ _ _ _
  refine leaves_nil (n := 4) (rs := [.tmp 2]) (vs := [(.func (.func 69) #[] #[(.pointer (some ⟨w.heap.size, 0, none⟩))])]) rfl ⟨⟨by decide, rfl⟩, trivial⟩ ?_
  exact ⟨rfl, b1, z1, e1⟩

theorem leavesF_calls (b : Nat) (w : World)  :
    Calls Try.prog 60 #[(.pointer (some ⟨b, 0, none⟩))] w (Ret (fun v w' => v = .func (.func 71) #[] #[.pointer (some ⟨w.heap.size, 0, none⟩)] ∧ Blk w' w.heap.size #[.pointer (some ⟨b, 0, none⟩)] 36 ∧ w'.heap.size = w.heap.size + 1 ∧ Ext w w')) := by
  refine calls_xc (n := 4) (f := fun s_ => [(.pointer (some ⟨b, 0, none⟩))].getD s_ undef) Try.func60 rfl rfl (by simp) (fun s_ => by simp) ?_
  refine xc_seq ?_
  refine xc_region ?_
  refine xl_op (P := Try.prog) (some 1) rfl rfl (ox_box (v := (.pointer (some ⟨b, 0, none⟩))) rfl ?_)
  intro w1 e1 z1 b1
  replace b1 : Blk w1 w.heap.size #[(.pointer (some ⟨b, 0, none⟩))] 36 := b1
  refine xl_op (P := Try.prog) (some 2) rfl rfl (ox_assign (v := .nilFunc) rfl ?_)
  refine xl_nil ?_
  refine xc_seq ?_
  refine xc_region ?_
  refine xl_op (P := Try.prog) (some 3) rfl rfl (ox_mkFunc (cs := [(.pointer (some ⟨w.heap.size, 0, none⟩))]) rfl ?_)
  refine xl_op (P := Try.prog) (some 2) rfl rfl (ox_assign (v := (.func (.func 71) #[] #[(.pointer (some ⟨w.heap.size, 0, none⟩))])) rfl ?_)
  refine xl_nil ?_
  refine xc_ret ?_
  change leaves _ _ _ _ _ _ _
  refine leaves_nil (n := 4) (rs := [.tmp 2]) (vs := [(.func (.func 71) #[] #[(.pointer (some ⟨w.heap.size, 0, none⟩))])]) rfl ⟨⟨by decide, rfl⟩, trivial⟩ ?_
  exact ⟨rfl, b1, z1, e1⟩

theorem walk_calls (l B bx : Nat) (stv : Value) (root : T) (X0 : Nat → Prop) (J Jx : List (Int × T) → (Nat → Prop) → World → Prop) (w : World) (hb : Blk w bx #[root.ptr] 36) (hP : PN stv w root) (hW : WF root) (hsz : sz root ≤ 4194304) (hlow : ∀ b ∈ blocks root, b < B) (hX : ∀ b, X0 b → B ≤ b ∧ b < w.heap.size) (hB : B ≤ w.heap.size) (hJ : Stab B J) (hJx : Stab B Jx) (hy : IterY Try.prog l encW B (walkT 0 root) J Jx) (h0 : J [] X0 w) :
    Calls Try.prog 69 #[(.func (.yield l) #[] #[]), (.pointer (some ⟨bx, 0, none⟩))] w (Ret (IterR B (walkT 0 root) J Jx)) := by
  refine calls_xc (n := 51) (f := fun s_ => [(.func (.yield l) #[] #[]), (.pointer (some ⟨bx, 0, none⟩))].getD s_ undef) Try.func69 rfl rfl (by simp) (fun s_ => by simp) ?_
  refine xc_scopeL 0 (fun m f ds W => ∃ (a : Int) (st : List T) (pre : List (Int × T)) (X : Nat → Prop) (Ds : List Nat) (A : Option Addr) (cp sb : Nat), m = (szL st).toNat ∧ ds = Ds.map dmark ∧ f 0 = .func (.yield l) #[] #[] ∧ f 3 = .int .i64 a ∧ f 4 = .pointer (some ⟨sb, 0, none⟩) ∧ WalkS stv root B J w a st pre X Ds A cp sb W) rfl ?_ ?_
  · skip
    rintro m f1 _ W ⟨a, st, pre, X, Ds, A, cp, sb, hm, rfl, g0, g3, g4, hs⟩
    have hlen := szL_len st
    have hsbB := hs.bd sb hs.xsb
    have hwr := wd_bd root
    have hsr := hs.size
    have hla := hs.lowA
    refine xc_seq ?_
    refine xc_seq ?_
    refine xc_region ?_
    refine xl_op (P := Try.prog) (some 10) rfl rfl (ox_load (v := (.slice A st.length cp)) tA_150 g4 (hs.blk.cell rfl) ?_)
    refine xl_op (P := Try.prog) (some 11) rfl rfl (ox_len (A := A) (n := st.length) (cp := cp) rfl tU_150 rfl ?_)
    refine xl_op (P := Try.prog) (some 12) rfl rfl (ox_eql (k := .i64) (a := (((st.length : Nat) : Int))) (b := 0) rfl rfl ?_)
    refine xl_nil ?_
    refine xc_if (p := (((st.length : Nat) : Int) : Int) = 0) rfl (fun h1 => ?_) (fun h1 => ?_)
    · skip
      refine xc_ret ?_
      change leaves _ _ _ _ _ _ _
      refine leaves_marks Ds _ (fun D hD => (hs.marks D hD).2) hs.nodup (fun w9 hc9 hs9 => ?_)
      refine leaves_nil (n := 51) (rs := []) (vs := []) rfl trivial ?_
      exact ⟨X, fun b hb => by have := hs.bd b hb; omega, .inl (by have ht := hs.told; rw [show st = [] from List.eq_nil_of_length_eq_zero (by omega)] at ht; simp only [walkL, List.append_nil] at ht; rw [ht]; exact hJ _ _ _ _ _ hs.bd hs.j (hc9.mono fun b _ h => (hs.marks b h).1) fun b h => .inl h)⟩
    · skip
      obtain ⟨x, st', hst⟩ : ∃ x st', st = x :: st' := by cases st with | nil => simp at h1 | cons x st' => exact ⟨x, st', rfl⟩
      obtain ⟨g, cap, heq, hcap⟩ := hs.own.some_of (by omega)
      simp only [Value.slice.injEq, true_and] at heq
      obtain ⟨rfl, rfl⟩ := heq
      have hl1 : st.length = st'.length + 1 := by rw [hst]; rfl
      have hcx : W.cell? ⟨g, 0 + (((st.length : Nat) : Int) - 1).toNat * 1, none⟩ = some x.ptr := by
        have := (hs.own.cells (o := st'.length) (vs := [x.ptr]) (by intro j v hj; cases j with | zero => simp at hj; subst hj; simp [hst] | succ j => simp at hj)).1
        rw [show 0 + (((st.length : Nat) : Int) - 1).toNat * 1 = st'.length by omega]; exact this
      have hown := hs.own.take (m := st'.length) (by omega)
      have hrow0 : (st.reverse.map T.ptr).take (st'.length * 1) = st'.reverse.map T.ptr := by rw [hst]; simp
      rw [hrow0] at hown
      have hpx : PN stv w x := by have := hs.pn; rw [hst] at this; exact this.1
      have hwx : WF x := by have := hs.wf; rw [hst] at this; exact this.1
      have hlx : ∀ b ∈ blocks x, b < B := fun b hb => hs.low b (by rw [hst]; exact List.mem_append_left _ hb)
      have hsx : szL st = sz x + szL st' ∧ wdL st = wd x + wdL st' := by rw [hst]; exact ⟨rfl, rfl⟩
      have hsk := sz_kids x
      have hwx0 := wd_bd x
      have hwk := wdL_bd x.kids
      have hs'0 := szL_nonneg st'
      have hk0 := szL_nonneg x.kids
      have hkl := szL_len x.kids
      have hsl := szL_len st'
      have hw'0 := wdL_bd st'
      have hstep : walkT 0 root = pre ++ (a, x) :: walkL (if x.kind = 1 then a + wd x else a) (x.kids ++ st') := by rw [hs.told, hst, walk_step hwx]
      have hpf : (pre ++ [(a, x)]) <+: walkT 0 root := ⟨walkL (if x.kind = 1 then a + wd x else a) (x.kids ++ st'), by rw [hstep]; simp⟩
      have hgX : X g := hs.xown g rfl
      refine xc_skip ?_
      refine xc_seq ?_
      refine xc_region ?_
      refine xl_op (P := Try.prog) (some 13) rfl rfl (ox_load (v := (.slice (some ⟨g, 0, none⟩) st.length cp)) tA_150 g4 (hs.blk.cell rfl) ?_)
      refine xl_op (P := Try.prog) (some 14) rfl rfl (ox_load (v := (.slice (some ⟨g, 0, none⟩) st.length cp)) tA_150 g4 (hs.blk.cell rfl) ?_)
      refine xl_op (P := Try.prog) (some 15) rfl rfl (ox_len (A := (some ⟨g, 0, none⟩)) (n := st.length) (cp := cp) rfl tU_150 rfl ?_)
      refine xl_op (P := Try.prog) (some 16) rfl rfl (ox_sub64 (a := (((st.length : Nat) : Int))) (b := 1) rfl rfl (by omega) ?_)
      refine xl_op (P := Try.prog) (some 17) rfl rfl (ox_indexAddr (b := g) (o := 0) (i := (((st.length : Nat) : Int) - 1)) tE_150 rfl rfl (by omega) (by omega) ?_)
      refine xl_op (P := Try.prog) (some 18) rfl rfl (ox_load (v := (.pointer (some ⟨x.b, 0, none⟩))) tA_36 rfl hcx ?_)
      refine xl_op (P := Try.prog) (some 5) rfl rfl (ox_assign (v := (.pointer (some ⟨x.b, 0, none⟩))) rfl ?_)
      refine xl_nil ?_
      refine xc_seq ?_
      refine xc_region ?_
      refine xl_op (P := Try.prog) (some 19) rfl rfl (ox_load (v := (.slice (some ⟨g, 0, none⟩) st.length cp)) tA_150 g4 (hs.blk.cell rfl) ?_)
      refine xl_op (P := Try.prog) (some 20) rfl rfl (ox_load (v := (.slice (some ⟨g, 0, none⟩) st.length cp)) tA_150 g4 (hs.blk.cell rfl) ?_)
      refine xl_op (P := Try.prog) (some 21) rfl rfl (ox_len (A := (some ⟨g, 0, none⟩)) (n := st.length) (cp := cp) rfl tU_150 rfl ?_)
      refine xl_op (P := Try.prog) (some 22) rfl rfl (ox_sub64 (a := (((st.length : Nat) : Int))) (b := 1) rfl rfl (by omega) ?_)
      refine xl_op (P := Try.prog) (some 23) rfl rfl (ox_sliceToN (A := (some ⟨g, 0, none⟩)) (cp := cp) (i := (((st.length : Nat) : Int) - 1)) st'.length tE_150 rfl rfl (by omega) (by omega) (by omega) ?_)
      refine xl_op (P := Try.prog) none rfl rfl (ox_store (n := 1) (vs := [(.slice (some ⟨g, 0, none⟩) st'.length cp)]) tS_150 g4 (v := (.slice (some ⟨g, 0, none⟩) st'.length cp)) rfl rfl rfl rfl hs.blk (Nat.le_of_ble_eq_true rfl) ?_)
      intro w1 e1 z1 b1
      replace b1 : Blk w1 sb #[(.slice (some ⟨g, 0, none⟩) st'.length cp)] 150 := b1
      refine xl_nil ?_
      refine xc_seq ?_
      refine xc_seq ?_
      refine xc_region ?_
      refine xl_op (P := Try.prog) (some 24) rfl rfl (ox_move (v := (.func (.yield l) #[] #[])) g0 ?_)
      refine xl_op (P := Try.prog) (some 25) rfl rfl (ox_move (v := (.int .i64 a)) g3 ?_)
      refine xl_op (P := Try.prog) (some 26) rfl rfl (ox_move (v := (.pointer (some ⟨x.b, 0, none⟩))) rfl ?_)
      refine xl_op (P := Try.prog) (some 27) rfl rfl (ox_callY (al := [(.int .i64 a), (.pointer (some ⟨x.b, 0, none⟩))]) rfl rfl (yield_b (hy pre (a, x) X w1 hpf (fun b hb => by have := hs.bd b hb; have := e1.size; omega) (hJ _ _ _ _ _ hs.bd hs.j (e1.mono fun b _ h => by subst h; exact hs.xsb) fun b h => .inl h)) ?_))
      intro β1 w2 hj1 hx1
      refine xl_op (P := Try.prog) (some 28) rfl rfl (ox_not (b := β1) rfl ?_)
      refine xl_nil ?_
      refine xc_cond (b := (!β1)) rfl (fun h2 => ?_) (fun h2 => ?_)
      · skip
        have h2' := h2
        try simp only [Bool.or_eq_true, Bool.and_eq_true, decide_eq_true_eq, Bool.or_eq_false_iff, Bool.and_eq_false_iff, decide_eq_false_iff_not, Bool.not_eq_true', Bool.not_eq_false'] at h2'
        obtain ⟨hjx, hmi⟩ := hx1 (by simpa using h2)
        refine xc_ret ?_
        change leaves _ _ _ _ _ _ _
        refine leaves_marks Ds _ (fun D hD => ?_) hs.nodup (fun w9 hc9 hs9 => ?_)
        · have h1 := hs.marks D hD; have h2 := hs.bd D h1.1
          refine (hmi.keep D (by have := e1.size; omega) (fun h => h.1 h1.1)).trans ((e1.keep D h2.2 ?_).trans h1.2)
          rintro rfl; exact absurd (hs.blk.symm.trans h1.2) (by simp)
        refine leaves_nil (n := 51) (rs := []) (vs := []) rfl trivial ?_
        exact ⟨X, fun b hb => by have := hs.bd b hb; have := e1.size; have := hmi.size; omega, .inr ⟨_, hpf, hJx _ _ _ _ _ (fun b hb => by have := hs.bd b hb; have := e1.size; have := hmi.size; omega) hjx (hc9.mono fun b _ h => (hs.marks b h).1) fun b h => .inl h⟩⟩
      · skip
        have h2' := h2
        try simp only [Bool.or_eq_true, Bool.and_eq_true, decide_eq_true_eq, Bool.or_eq_false_iff, Bool.and_eq_false_iff, decide_eq_false_iff_not, Bool.not_eq_true', Bool.not_eq_false'] at h2'
        obtain ⟨hji, hmi⟩ := hj1 (by simpa using h2)
        have hC2 : Chg (fun b => B ≤ b) w w2 := (hs.chg.chg1 e1 (.inl hsbB.1)).trans hmi fun b h _ => h.2
        have hpx2 : PN stv w2 x := PN.keep hC2 hpx fun b hb h => by have := hlx b hb; omega
        have hbx2 := hpx2.blk
        refine xc_skip ?_
        refine xc_seq ?_
        refine xc_seq ?_
        refine xc_region ?_
        refine xl_op (P := Try.prog) (some 29) rfl rfl (ox_move (v := (.pointer (some ⟨x.b, 0, none⟩))) rfl ?_)
        refine xl_op (P := Try.prog) (some 30) rfl rfl (ox_nilCheck (p := ⟨x.b, 0, none⟩) rfl ?_)
        refine xl_op (P := Try.prog) (some 31) rfl rfl (ox_fieldAddr (b := x.b) (o := 0) tF_124_2 rfl ?_)
        refine xl_op (P := Try.prog) (some 32) rfl rfl (ox_load (v := (.int .i64 x.kind)) tA_3 rfl (hbx2.cell rfl) ?_)
        refine xl_op (P := Try.prog) (some 33) rfl rfl (ox_eql (k := .i64) (a := x.kind) (b := 1) rfl rfl ?_)
        refine xl_nil ?_
        refine xc_cut (fun f' W' => w2 = W' ∧ f' 0 = (.func (.yield l) #[] #[]) ∧ f' 4 = (.pointer (some ⟨sb, 0, none⟩)) ∧ f' 5 = (.pointer (some ⟨x.b, 0, none⟩)) ∧ f' 3 = (.int .i64 (if x.kind = 1 then a + wd x else a))) ?_ ?_
        · skip
          refine xc_if (p := (x.kind : Int) = 1) rfl (fun h3 => ?_) (fun h3 => ?_)
          · skip
            refine xc_region ?_
            refine xl_op (P := Try.prog) (some 34) rfl rfl (ox_move (v := (.int .i64 a)) g3 ?_)
            refine xl_op (P := Try.prog) (some 35) rfl rfl (ox_move (v := (.pointer (some ⟨x.b, 0, none⟩))) rfl ?_)
            refine xl_op (P := Try.prog) (some 36) rfl rfl (ox_nilCheck (p := ⟨x.b, 0, none⟩) rfl ?_)
            refine xl_op (P := Try.prog) (some 37) rfl rfl (ox_fieldAddr (b := x.b) (o := 0) tF_124_6 rfl ?_)
            refine xl_op (P := Try.prog) (some 38) rfl rfl (ox_load (v := (.int .i64 (wd x))) tA_3 rfl (hbx2.cell rfl) ?_)
            refine xl_op (P := Try.prog) (some 39) rfl rfl (ox_add64 (a := a) (b := (wd x)) rfl rfl (by omega) ?_)
            refine xl_op (P := Try.prog) (some 3) rfl rfl (ox_assign (v := (.int .i64 (a + (wd x)))) rfl ?_)
            refine xl_nil ?_
            exact ⟨rfl, rfl, g0, g4, rfl, (by first | exact rfl | exact (congrArg (Value.int .i64) (by omega)))⟩
          · skip
            refine xc_skip ?_
            exact ⟨rfl, rfl, g0, g4, rfl, (by first | exact g3 | exact g3.trans (congrArg (Value.int .i64) (by omega)))⟩
        rintro f1 _ ⟨rfl, g0_f1, g4_f1, g5_f1, g3_f1⟩
        refine xc_seq ?_
        refine xc_seq ?_
        refine xc_region ?_
        refine xl_op (P := Try.prog) (some 40) rfl rfl (ox_move (v := (.pointer (some ⟨x.b, 0, none⟩))) g5_f1 ?_)
        refine xl_op (P := Try.prog) (some 41) rfl rfl (ox_nilCheck (p := ⟨x.b, 0, none⟩) rfl ?_)
        refine xl_op (P := Try.prog) (some 42) rfl rfl (ox_fieldAddr (b := x.b) (o := 0) tF_124_5 rfl ?_)
        refine xl_op (P := Try.prog) (some 43) rfl rfl (ox_load (v := (.slice ((x.ka.map fun k => ⟨k, 0, none⟩)) x.kids.length x.kc)) tA_28 rfl (hbx2.cell rfl) ?_)
        refine xl_op (P := Try.prog) (some 44) rfl rfl (ox_callE (al := [(.slice ((x.ka.map fun k => ⟨k, 0, none⟩)) x.kids.length x.kc)]) pf_70 rfl (ret_mono (backward_calls (x.ka.map fun k => ⟨k, 0, none⟩) x.kids.length x.kc w2) ?_))
        rintro _ w3 ⟨rfl, hbk, zbk, e2⟩
        have he2 := e2.size
        refine xl_nil ?_
        refine xc_block ?_
        have hszA := e1.size; have hszB := hmi.size
        have q1 := ((b1.keep hmi (fun h => h.1 hs.xsb)).ext e2)
        have hbs2 : Blk w3 sb #[.slice (some ⟨g, 0, none⟩) st'.length cp] 150 := q1
        have hown2 : Vx.Own w3 36 1 (.slice (some ⟨g, 0, none⟩) st'.length cp) st'.length (st'.reverse.map T.ptr) := (((hown.keep e1 (fun k hk h => hs.own.ne_blk hs.blk (by decide) k (by simpa [Value.ownBlock] using hk) h)).keep hmi fun k hk h => h.1 (by simp [Value.ownBlock] at hk; subst hk; exact hgX)).ext e2)
        have hC3 : Chg (fun b => B ≤ b) w w3 := hC2.ext e2
        have hI0 : walkI B J w (pre ++ [(a, x)]) (st'.reverse.map T.ptr) Ds sb [] (fun b => b = w2.heap.size) w3 := by
          refine ⟨X, some ⟨g, 0, none⟩, cp, by simpa using hbs2, by simpa using hown2, ⟨hs.xsb, by omega⟩, ?_, ?_, ?_, ?_, hC3⟩
          · intro k hk; simp [Value.ownBlock] at hk; subst hk; exact ⟨hgX, by have := (hs.bd g hgX).2; omega⟩
          · intro D hD; have h1 := hs.marks D hD; have h2 := hs.bd D h1.1
            refine ⟨⟨h1.1, by omega⟩, ?_⟩
            refine (e2.keep D (by omega) not_false).trans ((hmi.keep D (by omega) (fun h => h.1 h1.1)).trans ((e1.keep D h2.2 ?_).trans h1.2))
            rintro rfl; exact absurd (hs.blk.symm.trans h1.2) (by simp)
          · exact hJ _ _ w2 _ _ (fun b hb => by have := hs.bd b hb; omega) hji (Ext.to e2) (fun b hb => hb.imp id fun h => by omega)
          · intro b hb; have := hs.bd b hb; omega
        have hBX : ∀ b, b = w2.heap.size → B ≤ b ∧ b < w3.heap.size := fun b hb => by subst hb; have := hbk.lt; omega
        have hRow : RowA w3 (x.ka.map fun k => ⟨k, 0, none⟩) (x.kids.map T.ptr) := (rowA_of hpx2.row).ext e2
        have hit := back_iter (X := fun b => b = w2.heap.size) (B := B) hbk hRow (.inl rfl) (fun q hq => .inr (by cases hka : x.ka with | none => rw [hka] at hq; cases hq | some k => rw [hka] at hq; cases hq; exact hlx k (blocks_ka hka))) hBX (by omega)
        have hbl0 : (st'.reverse.map T.ptr).length = st'.length := by simp
        refine xc_range (ps := #[45, 46]) (α := Nat × T) (gf := 73) (lb := #[.pointer (some ⟨w2.heap.size, 0, none⟩)]) (encs := encB) (B := B) (X0 := fun b => b = w2.heap.size) (xs := backI x.kids) rfl pf_73 (fun _ => rfl) hit (by omega) hBX (walkI B J w (pre ++ [(a, x)]) (st'.reverse.map T.ptr) Ds sb) (fun _ _ _ _ => False) (walkI_stab hJ) (fun _ _ _ _ _ _ _ h => h.elim) hI0 ?_ ?_ ?_
        · intro l₁ pre₁ x₁ Y W hpre hY hYl hl₁ hI
          obtain ⟨X1, A1, cp1, h⟩ := hI
          have hlp : pre₁.length + 1 ≤ x.kids.length := by have := hpre.length_le; simp [backI_len] at this; omega
          refine xc_region ?_
          refine xl_op (P := Try.prog) (some 7) rfl rfl (ox_assign (v := (.pointer (some ⟨x₁.2.b, 0, none⟩))) rfl ?_)
          refine xl_nil ?_
          refine ⟨rfl, rfl, Chg.refl _ _, fun W2 hcY hsY hlY => ?_⟩
          have hszY := hcY.size
          refine xc_block ?_
          refine xc_region ?_
          refine xl_op (P := Try.prog) (some 47) rfl rfl (ox_load (v := (.slice A1 ((st'.reverse.map T.ptr).length + pre₁.length) cp1)) tA_150 g4_f1 ((h.blk.keep hcY h.xsb.2).cell rfl) ?_)
          refine xl_op (P := Try.prog) (some 48) rfl rfl (ox_move (v := (.pointer (some ⟨x₁.2.b, 0, none⟩))) rfl ?_)
          refine xl_op (P := Try.prog) (some 49) rfl rfl (ox_mkSlice (ps := [(0, (.pointer (some ⟨x₁.2.b, 0, none⟩)))]) (zs := #[(.pointer none)]) (cs := #[(.pointer (some ⟨x₁.2.b, 0, none⟩))]) tE_150 rfl (by decide) (by kernel_rfl) (by kernel_rfl) ?_)
          intro w4 e3 z2 b2
          replace b2 : Blk w4 W2.heap.size #[(.pointer (some ⟨x₁.2.b, 0, none⟩))] 36 := b2
          have q2 := (h.own.keep hcY (fun k hk => (h.xown k hk).2))
          refine xl_op (P := Try.prog) (some 50) rfl rfl (ox_append (n := ((st'.reverse.map T.ptr).length + pre₁.length)) (g := W2.heap.size) (o := 0) (m := 1) (xs := (((st'.reverse.map T.ptr) ++ pre₁.map fun q => q.2.ptr))) (news := ([(.pointer (some ⟨x₁.2.b, 0, none⟩))])) rfl tE_150 rfl (by decide) (v := (.slice A1 ((st'.reverse.map T.ptr).length + pre₁.length) cp1)) rfl rfl (q2.ext e3) rfl b2.all rfl (by omega) (by omega) ?_)
          intro v1 w5 o1 e4 at1 nil1
          have he4 := e4.size
          obtain ⟨A1, c1, rfl, hc1⟩ := o1.shape
          have low1 : ∀ _k, (Value.slice A1 ((st'.reverse.map T.ptr).length + pre₁.length + 1) c1).ownBlock = some _k → 0 ≤ _k := fun _k _h => by rcases at1 with _e | _e <;> rw [_e] at _h; exact (fun _k _h => Nat.zero_le _) _k _h; exact (by cases _h; omega)
          have q3 := (((h.blk.keep hcY h.xsb.2).ext e3).keep e4 (fun _h => (q2.ext e3).ne_blk ((h.blk.keep hcY h.xsb.2).ext e3) (by decide) _ _h rfl))
          refine xl_op (P := Try.prog) none rfl rfl (ox_store (n := 1) (vs := [(.slice A1 ((st'.reverse.map T.ptr).length + pre₁.length + 1) c1)]) tS_150 g4_f1 (v := (.slice A1 ((st'.reverse.map T.ptr).length + pre₁.length + 1) c1)) rfl rfl rfl rfl q3 (Nat.le_of_ble_eq_true rfl) ?_)
          intro w6 e5 z3 b3
          replace b3 : Blk w6 sb #[(.slice A1 ((st'.reverse.map T.ptr).length + pre₁.length + 1) c1)] 150 := b3
          refine xl_nil ?_
          have q4 := (o1.keep1 e5 (fun k hk => o1.ne_blk q3 (by decide) k hk))
          have hown9 := q4
          have hblk9 := b3
          have hszh := h.bd
          have hs1 := hcY.size; have hs2' := e3.size; have hs3 := e4.size; have hs4 := e5.size
          skip
          have hnew : ∀ k, (Value.slice A1 ((st'.reverse.map T.ptr).length + pre₁.length + 1) c1).ownBlock = some k → (X1 k ∧ ¬ Y k) ∨ W.heap.size ≤ k := by
            intro k hk; rcases at1 with h9 | h9
            · rw [h9] at hk; exact .inl (h.xown k hk)
            · rw [h9] at hk; cases hk; exact .inr (by omega)
          have hgr : ∀ b, (X1 b ∧ ¬ Y b) → b < W.heap.size := fun b hb => (h.bd b hb.1).2
          have hcA : Chg (fun b => X1 b ∧ ¬ Y b) W2 w6 := Chg.trans (Chg.trans (Ext.to e3) e4 fun b hb _ => h.xown b hb) e5 fun b hb _ => by subst hb; exact h.xsb
          refine ⟨hcA.mono fun b _ hb => ⟨hb.2, (h.bd b hb.1).1⟩, fun b => X1 b ∨ (W.heap.size ≤ b ∧ b < w6.heap.size ∧ ¬ Y b), A1, c1, ?_⟩
          have hnY : ∀ b, Y b → b < W.heap.size := fun b hb => (hY b hb).2
          refine ⟨by simpa [Nat.add_assoc] using hblk9, by simpa [Nat.add_assoc, T.ptr] using hown9, ⟨.inl h.xsb.1, h.xsb.2⟩, ?_, ?_, ?_, ?_, ?_⟩
          · intro k hk; have hk2 := hown9.lt k (ownBlock_len hk); rcases hnew k (ownBlock_len hk) with h9 | h9
            · exact ⟨.inl h9.1, h9.2⟩
            · have hn : ¬ Y k := fun hy => by have := hnY k hy; omega
              exact ⟨.inr ⟨h9, hk2, hn⟩, hn⟩
          · intro D hD; have h1 := h.marks D hD; have h2 := h.bd D h1.1.1
            refine ⟨⟨.inl h1.1.1, h1.1.2⟩, ?_⟩
            refine (e5.keep D (by omega) ?_).trans ((e4.keep D (by omega) ?_).trans ((e3.keep D (by omega) not_false).trans ((hcY.keep D h2.2 h1.1.2).trans h1.2)))
            · rintro rfl; exact absurd (h.blk.symm.trans h1.2) (by simp)
            · intro hk; obtain ⟨A9, c9, h8, _⟩ := h.own.shape; rcases h.own.form with ⟨h7, _⟩ | ⟨g9, cap9, cur9, h7, hb9, _⟩ <;> rw [h7] at hk <;> simp [Value.ownBlock] at hk; subst hk; exact absurd (hb9.symm.trans h1.2) (by simp)
          · refine hJ _ (fun b => X1 b ∨ Y b) W _ _ (fun b hb => hb.elim (h.bd b) (hY b)) h.j (Chg.trans (hcY.mono fun b _ hb => .inr hb) hcA fun b hb _ => .inl hb.1) ?_
            intro b hb; rcases hb with (hb | hb) | hb
            · exact .inl (.inl hb)
            · exact .inr hb.1
            · exact .inl (.inr hb)
          · intro b hb; rcases hb with hb | hb
            · have := h.bd b hb; exact ⟨this.1, by omega⟩
            · exact ⟨by have := h.chg.size; omega, hb.2.1⟩
          · exact Chg.trans (Chg.trans h.chg hcY fun b hb _ => (hY b hb).1) hcA fun b hb _ => (h.bd b hb.1).1
        · skip
          intro D Y W hD hY hYD hI hheap
          refine xc_goto ?_
          obtain ⟨X1, A1, cp1, h⟩ := hI
          have hszst : szL (x.kids ++ st') = szL x.kids + szL st' ∧ wdL (x.kids ++ st') = wdL x.kids + wdL st' := ⟨szL_append _ _, wdL_append _ _⟩
          have hlb : (st'.reverse.map T.ptr).length + (backI x.kids).length = (x.kids ++ st').length := by simp [backI_len]; omega
          have hrv : (st'.reverse.map T.ptr) ++ ((backI x.kids).map fun q => q.2.ptr) = (x.kids ++ st').reverse.map T.ptr := by rw [show ((backI x.kids).map fun q => q.2.ptr) = ((backI x.kids).map Prod.snd).map T.ptr by simp [Function.comp_def], backI_snd]; simp
          refine ⟨rfl, _, ?_, (if x.kind = 1 then a + wd x else a), x.kids ++ st', pre ++ [(a, x)], (fun b => X1 b ∨ Y b), D :: Ds, A1, cp1, sb, rfl, rfl, g0_f1, g3_f1, g4_f1, ?_⟩
          · rw [hm, hsx.1, hszst.1]; omega
          have h1 := h.blk; have h2 := h.own; rw [hlb] at h1 h2; rw [hrv] at h2
          refine ⟨h1, h2, .inl h.xsb.1, fun k hk => .inl (h.xown k (ownBlock_len hk)).1, ?_, ?_, ?_, ?_, ?_, ?_, ?_, ?_, h.j, fun b hb => hb.elim (h.bd b) (hY b), h.chg⟩
          · exact List.nodup_cons.2 ⟨fun hh => (h.marks D hh).1.2 hYD, hs.nodup⟩
          · intro D' hD'; rcases List.mem_cons.1 hD' with rfl | hh
            · exact ⟨.inr hYD, hheap⟩
            · exact ⟨.inl (h.marks D' hh).1.1, (h.marks D' hh).2⟩
          · have := hs.pn; rw [hst] at this; exact PNL_append hpx.kids this.2
          · have := hs.wf; rw [hst] at this; exact WFL_append hwx.kids this.2
          · intro b hb; rw [blocksL_append] at hb; rcases List.mem_append.1 hb with hb | hb
            · exact hlx b (blocks_kidsL hb)
            · exact hs.low b (by rw [hst]; exact List.mem_append_right _ hb)
          · rw [hszst.2]; by_cases hk1 : x.kind = 1
            · rw [if_pos hk1, (hwx.leaf hk1).1]; simp only [wdL]; omega
            · rw [if_neg hk1]; have := wd_inner hk1; omega
          · rw [hszst.1]; omega
          · rw [hstep]; simp
        · skip
          intro D Y c pre W hD hY hYD hpre hI hheap; exact hI.elim
  · intro hgo
    refine xc_seq ?_
    refine xc_region ?_
    refine xl_op (P := Try.prog) (some 3) rfl rfl (ox_assign (v := (.int .i64 0)) rfl ?_)
    refine xl_nil ?_
    refine xc_seq ?_
    refine xc_region ?_
    refine xl_op (P := Try.prog) (some 8) rfl rfl (ox_load (v := (.pointer (some ⟨root.b, 0, none⟩))) tA_36 rfl (hb.cell rfl) ?_)
    refine xl_op (P := Try.prog) (some 9) rfl rfl (ox_mkSlice (ps := [(0, (.pointer (some ⟨root.b, 0, none⟩)))]) (zs := #[(.pointer none)]) (cs := #[(.pointer (some ⟨root.b, 0, none⟩))]) tE_150 rfl (by decide) (by kernel_rfl) (by kernel_rfl) ?_)
    intro w7 e6 z4 b4
    replace b4 : Blk w7 w.heap.size #[(.pointer (some ⟨root.b, 0, none⟩))] 36 := b4
    refine xl_op (P := Try.prog) (some 4) rfl rfl (ox_alloc tZ_150 ?_)
    intro w8 e7 z5 b5
    replace b5 : Blk w8 w7.heap.size #[(.slice none 0 0)] 150 := b5
    refine xl_op (P := Try.prog) none rfl rfl (ox_store (n := 1) (vs := [(.slice (some ⟨w.heap.size, 0, none⟩) 1 1)]) tS_150 rfl (v := (.slice (some ⟨w.heap.size, 0, none⟩) 1 1)) rfl rfl rfl rfl b5 (Nat.le_of_ble_eq_true rfl) ?_)
    intro w9 e8 z6 b6
    replace b6 : Blk w9 w7.heap.size #[(.slice (some ⟨w.heap.size, 0, none⟩) 1 1)] 150 := b6
    refine xl_nil ?_
    refine xc_seq ?_
    refine xc_label ?_
    have q5 := ((b4.ext e7).keep1 e8 ((b4.ext e7).ne b5 (by decide)))
    refine hgo _ _ _ ⟨_, 0, [root], [], fun b => X0 b ∨ w.heap.size ≤ b ∧ b < w.heap.size + 2, [], some ⟨w.heap.size, 0, none⟩, 1, w7.heap.size, rfl, rfl, rfl, rfl, rfl, ⟨b6, by simpa [T.ptr] using Vx.Own.lit (n := 1) (sz := 1) q5 rfl (by decide), .inr (by omega), fun k hk => .inr (by simp [Value.ownBlock] at hk; omega), .nil, by simp, ⟨hP, trivial⟩, ⟨hW, trivial⟩, by simpa [blocksL] using hlow, by simp [wdL], by simp [szL], walkT_single 0 root, hJ _ _ w _ _ hX h0 (Ext.to (Ext.chg1 (Ext.trans e6 e7) e8 (by omega))) (fun b hb => hb.imp id fun h => h.1), ?_, (Ext.to (Ext.chg1 (Ext.trans e6 e7) e8 (by omega)))⟩⟩
    intro b hb; rcases hb with hb | hb
    · have := hX b hb; exact ⟨this.1, by omega⟩
    · exact ⟨by omega, by omega⟩

end Go.Proofs.Ythhbnodnpajljaa
