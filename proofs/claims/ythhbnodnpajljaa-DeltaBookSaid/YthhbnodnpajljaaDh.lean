/-
  Node.Leaves as an iterator: the leaves of the tree, in their order, each with its place. No conditions.
-/
import Derived.Test.YthhbnodnpajljaaVxi
import Derived.Test.YthhbnodnpajljaaRows
import Derived.Test.YthhbnodnpajljaaDx
set_option linter.unusedVariables false
set_option linter.unusedSimpArgs false
set_option maxRecDepth 100000
set_option maxHeartbeats 4000000
namespace Go.Proofs.Ythhbnodnpajljaa
open Go Go.RowKit Go.Vx


theorem pf_57 : plainF Try.prog 57 = true := by kernel_rfl
theorem pf_69 : plainF Try.prog 69 = true := by kernel_rfl
theorem tA_149 : isAggT Try.prog 149 = some false := by kernel_rfl

theorem leaves_calls (l B bx : Nat) (stv : Value) (root : T) (X0 : Nat → Prop) (J Jx : List (Int × T) → (Nat → Prop) → World → Prop) (w : World) (hb : Blk w bx #[root.ptr] 36) (hP : PN stv w root) (hW : WF root) (hsz : sz root ≤ 4194304) (hlow : ∀ b ∈ blocks root, b < B) (hX : ∀ b, X0 b → B ≤ b ∧ b < w.heap.size) (hB : B ≤ w.heap.size) (hJ : Stab B J) (hJx : Stab B Jx) (hy : IterY Try.prog l encW B (leafI root) J Jx) (h0 : J [] X0 w) :
    Calls Try.prog 71 #[(.func (.yield l) #[] #[]), (.pointer (some ⟨bx, 0, none⟩))] w (Ret (IterR B (leafI root) J Jx)) := by
  refine calls_xc (n := 21) (f := fun s_ => [(.func (.yield l) #[] #[]), (.pointer (some ⟨bx, 0, none⟩))].getD s_ undef) Try.func71 rfl rfl (by simp) (fun s_ => by simp) ?_
  refine xc_seq ?_
  refine xc_region ?_
  refine xl_op (P := Try.prog) (some 2) rfl rfl (ox_box (v := (.func (.yield l) #[] #[])) rfl ?_)
  intro w1 e1 z1 b1
  replace b1 : Blk w1 w.heap.size #[(.func (.yield l) #[] #[])] 149 := b1
  refine xl_nil ?_
  refine xc_seq ?_
  refine xc_region ?_
  refine xl_op (P := Try.prog) (some 5) rfl rfl (ox_load (v := (.pointer (some ⟨root.b, 0, none⟩))) tA_36 rfl ((hb.ext e1).cell rfl) ?_)
  refine xl_op (P := Try.prog) (some 6) rfl rfl (ox_callE (al := [(.pointer (some ⟨root.b, 0, none⟩))]) pf_57 rfl (ret_mono (walkF_calls root.b w1) ?_))
  rintro _ w2 ⟨rfl, hbk, zbk, e2⟩
  have he2 := e2.size
  refine xl_nil ?_
  refine xc_block ?_
  have hE := (Ext.trans e1 e2)
  have hEs := hE.size
  have hbk0 := hbk.lt
  have hBX : ∀ b, b = w1.heap.size → B ≤ b ∧ b < w2.heap.size := fun b hb => by subst hb; omega
  have hit := walk_iter (X := fun b => b = w1.heap.size) (B := B) hbk (hP.ext hE) hW hsz hlow (.inl rfl) hBX (by omega)
  have hI0 : LeafI root B J w l X0 w.heap.size [] (fun b => b = w1.heap.size) w2 := by
    refine ⟨hJ _ _ w _ _ hX h0 (Ext.to hE) ?_, by omega, (b1.ext e2), ?_, Ext.to hE⟩
    · intro b hb; rcases hb with (hb | hb) | hb
      · exact .inl hb
      · exact .inr (by omega)
      · exact .inr (by omega)
    · intro b hb; rcases hb with hb | hb
      · have := hX b hb; omega
      · omega
  refine xc_range (ps := #[7, 8]) (α := Int × T) (gf := 69) (lb := #[.pointer (some ⟨w1.heap.size, 0, none⟩)]) (encs := encW) (B := B) (X0 := fun b => b = w1.heap.size) (xs := walkT 0 root) rfl pf_69 (fun _ => rfl) hit (by omega) hBX (LeafI root B J w l X0 w.heap.size) (LeafX B Jx X0 w.heap.size) (leafI_stab hJ) (leafX_stab hJx) hI0 ?_ ?_ ?_
  · intro l₁ pre₁ x₁ Y W hpre hY hYl hl₁ hI
    have hmem : x₁ ∈ walkT 0 root := hpre.subset (by simp)
    have hm := walkT_mem hmem
    have hpx : PN stv W x₁.2 := PN.keep hI.chg (hm.1 stv w hP) fun b hb h => by have := hlow b (hm.2.1 b hb); omega
    have hbx := hpx.blk
    refine xc_seq ?_
    refine xc_region ?_
    refine xl_op (P := Try.prog) (some 3) rfl rfl (ox_assign (v := (.int .i64 x₁.1)) rfl ?_)
    refine xl_nil ?_
    refine xc_region ?_
    refine xl_op (P := Try.prog) (some 4) rfl rfl (ox_assign (v := (.pointer (some ⟨x₁.2.b, 0, none⟩))) rfl ?_)
    refine xl_nil ?_
    refine ⟨rfl, rfl, Chg.refl _ _, fun W2 hcY hsY hlY => ?_⟩
    have hszY := hcY.size
    refine xc_block ?_
    refine xc_seq ?_
    refine xc_region ?_
    refine xl_op (P := Try.prog) (some 9) rfl rfl (ox_move (v := (.pointer (some ⟨x₁.2.b, 0, none⟩))) rfl ?_)
    refine xl_op (P := Try.prog) (some 10) rfl rfl (ox_nilCheck (p := ⟨x₁.2.b, 0, none⟩) rfl ?_)
    refine xl_op (P := Try.prog) (some 11) rfl rfl (ox_fieldAddr (b := x₁.2.b) (o := 0) tF_124_2 rfl ?_)
    have q1 := (hbx.keep hcY (fun h => by have := hlow _ (hm.2.1 _ (blocks_b x₁.2)); have := hY _ h; omega))
    refine xl_op (P := Try.prog) (some 12) rfl rfl (ox_load (v := (.int .i64 x₁.2.kind)) tA_3 rfl (q1.cell rfl) ?_)
    refine xl_op (P := Try.prog) (some 13) rfl rfl (ox_eql (k := .i64) (a := x₁.2.kind) (b := 1) rfl rfl ?_)
    refine xl_op (P := Try.prog) (some 14) rfl rfl (ox_move (v := (.bool (decide ((x₁.2.kind : Int) = 1)))) rfl ?_)
    by_cases hk1 : (x₁.2.kind : Int) = 1
    · skip
      refine xl_opg (P := Try.prog) (some 15) (j := 5) (b := true) rfl rfl (congrArg some (decide_eq_true hk1)) (ox_load (v := (.func (.yield l) #[] #[])) tA_149 rfl ((hI.blk.keep hcY hI.ny).cell rfl) ?_)
      refine xl_opg (P := Try.prog) (some 16) (j := 5) (b := true) rfl rfl (congrArg some (decide_eq_true hk1)) (ox_move (v := (.int .i64 x₁.1)) rfl ?_)
      refine xl_opg (P := Try.prog) (some 17) (j := 5) (b := true) rfl rfl (congrArg some (decide_eq_true hk1)) (ox_move (v := (.pointer (some ⟨x₁.2.b, 0, none⟩))) rfl ?_)
      have hk1 : x₁.2.kind = 1 := by assumption
      have hpf : (pre₁.filter isLeaf ++ [x₁]) <+: leafI root := by have h9 := hpre.filter isLeaf; rw [List.filter_append] at h9; simpa [isLeaf, hk1, leafI] using h9
      refine xl_opg (P := Try.prog) (some 18) (j := 5) (b := true) rfl rfl (congrArg some (decide_eq_true hk1)) (ox_callY (al := [(.int .i64 x₁.1), (.pointer (some ⟨x₁.2.b, 0, none⟩))]) rfl rfl (yield_b (hy _ x₁ (fun b => (X0 b ∨ b = w.heap.size) ∨ Y b) W2 hpf (fun b hb => by have := hcY.size; exact hb.elim (fun hb => by have := hI.bd b hb; omega) fun hb => by have := hY b hb; omega) (hJ _ _ W _ W2 (fun b hb => hb.elim (hI.bd b) (hY b)) hI.j (hcY.mono fun b _ hb => .inr hb) fun b hb => .inl hb)) ?_))
      intro β1 w3 hj1 hx1
      refine xl_opg (P := Try.prog) (some 19) (j := 5) (b := true) rfl rfl (congrArg some (decide_eq_true hk1)) (ox_not (b := β1) rfl ?_)
      refine xl_op (P := Try.prog) (some 20) rfl rfl (ox_pick_t (v := (.bool (!β1))) (congrArg Value.bool (decide_eq_true hk1)) rfl ?_)
      refine xl_nil ?_
      refine xc_cond (b := (!β1)) rfl (fun h2 => ?_) (fun h2 => ?_)
      · skip
        have h2' := h2
        try simp only [Bool.or_eq_true, Bool.and_eq_true, decide_eq_true_eq, Bool.or_eq_false_iff, Bool.and_eq_false_iff, decide_eq_false_iff_not, Bool.not_eq_true', Bool.not_eq_false'] at h2'
        obtain ⟨hjx, hmi⟩ := hx1 (by simpa using h2)
        refine xc_ret ?_
        have hf : (pre₁ ++ [x₁]).filter isLeaf = pre₁.filter isLeaf ++ [x₁] := by rw [List.filter_append]; simp [isLeaf, hk1]
        refine ⟨hmi.mono fun b _ hb => ⟨fun h => hb.1 (.inr h), hb.2⟩, rfl, by rw [hf]; exact hjx, fun b hb => ⟨(hI.bd b hb).1, by have := (hI.bd b hb).2; have := hcY.size; have := hmi.size; omega⟩⟩
      · skip
        have h2' := h2
        try simp only [Bool.or_eq_true, Bool.and_eq_true, decide_eq_true_eq, Bool.or_eq_false_iff, Bool.and_eq_false_iff, decide_eq_false_iff_not, Bool.not_eq_true', Bool.not_eq_false'] at h2'
        obtain ⟨hji, hmi⟩ := hj1 (by simpa using h2)
        refine xc_skip ?_
        refine ⟨hmi.mono fun b _ hb => ⟨fun h => hb.1 (.inr h), hb.2⟩, ?_⟩
        have hf : (pre₁ ++ [x₁]).filter isLeaf = pre₁.filter isLeaf ++ [x₁] := by rw [List.filter_append]; simp [isLeaf, hk1]
        have q2 := ((hI.blk.keep hcY hI.ny).keep hmi (fun h => h.1 (.inl (.inr rfl))))
        refine ⟨by rw [hf]; exact hji, hI.ny, q2, fun b hb => ⟨(hI.bd b hb).1, by have := (hI.bd b hb).2; have := hcY.size; have := hmi.size; omega⟩, ?_⟩
        exact Chg.trans (Chg.trans hI.chg hcY fun b hb _ => (hY b hb).1) hmi fun b hb _ => hb.2
    · skip
      refine xl_skip (some 15) (j := 5) (b := true) false rfl rfl (congrArg some (decide_eq_false hk1)) (by decide) ?_
      refine xl_skip (some 16) (j := 5) (b := true) false rfl rfl (congrArg some (decide_eq_false hk1)) (by decide) ?_
      refine xl_skip (some 17) (j := 5) (b := true) false rfl rfl (congrArg some (decide_eq_false hk1)) (by decide) ?_
      refine xl_skip (some 18) (j := 5) (b := true) false rfl rfl (congrArg some (decide_eq_false hk1)) (by decide) ?_
      refine xl_skip (some 19) (j := 5) (b := true) false rfl rfl (congrArg some (decide_eq_false hk1)) (by decide) ?_
      refine xl_op (P := Try.prog) (some 20) rfl rfl (ox_pick_f (v := (.bool false)) (congrArg Value.bool (decide_eq_false hk1)) rfl ?_)
      refine xl_nil ?_
      refine xc_cond_f rfl ?_
      refine xc_skip ?_
      refine ⟨Chg.refl _ _, ?_⟩
      have hf : (pre₁ ++ [x₁]).filter isLeaf = pre₁.filter isLeaf := by rw [List.filter_append]; simp [isLeaf, hk1]
      have h2 := leafI_stab hJ pre₁ Y W Y W2 hY hI hcY (fun b hb => .inl hb)
      exact ⟨by rw [hf]; exact h2.j, h2.ny, h2.blk, h2.bd, h2.chg⟩
  · skip
    intro D Y W hD hY hYD hI hheap
    change leaves _ _ _ _ _ _ _
    refine leaves_marks [D] _ (fun D' hD' => by simp at hD'; subst hD'; exact hheap) (by simp) (fun w9 hc9 hs9 => ?_)
    have hbdA : ∀ b, ((X0 b ∨ b = w.heap.size) ∨ Y b) → B ≤ b ∧ b < W.heap.size := fun b hb => hb.elim (hI.bd b) (hY b)
    refine leaves_nil (n := 21) (rs := []) (vs := []) rfl trivial ?_
    exact ⟨_, fun b hb => by have := hbdA b hb; omega, .inl (hJ _ _ W _ w9 hbdA hI.j (hc9.mono fun b _ h => by simp at h; subst h; exact .inr hYD) fun b h => .inl h)⟩
  · skip
    intro D Y c pre W hD hY hYD hpre hI hheap
    have hc := hI.c; subst hc
    refine xc_ret ?_
    change leaves _ _ _ _ _ _ _
    refine leaves_marks [D] _ (fun D' hD' => by simp at hD'; subst hD'; exact hheap) (by simp) (fun w9 hc9 hs9 => ?_)
    have hbdA : ∀ b, ((X0 b ∨ b = w.heap.size) ∨ Y b) → B ≤ b ∧ b < W.heap.size := fun b hb => hb.elim (hI.bd b) (hY b)
    refine leaves_nil (n := 21) (rs := []) (vs := []) rfl trivial ?_
    exact ⟨_, fun b hb => by have := hbdA b hb; omega, .inr ⟨_, hpre.filter isLeaf, hJx _ _ W _ w9 hbdA hI.j (hc9.mono fun b _ h => by simp at h; subst h; exact .inr hYD) fun b h => .inl h⟩⟩

theorem leaves_iter {B bx : Nat} {stv : Value} {X : Nat → Prop} {root : T} {w : World} (hb : Blk w bx #[root.ptr] 36) (hP : PN stv w root) (hW : WF root) (hsz : sz root ≤ 4194304) (hlow : ∀ b ∈ blocks root, b < B) (hXb : X bx ∨ bx < B)
    (hX : ∀ b, X b → B ≤ b ∧ b < w.heap.size) (hB : B ≤ w.heap.size) : Iter Try.prog 71 #[.pointer (some ⟨bx, 0, none⟩)] encW B X (leafI root) w :=
  Iter.mk (lb := [.pointer (some ⟨bx, 0, none⟩)]) fun l J Jx W hm hJ hJx hy h0 => leaves_calls l B bx stv root X J Jx W (hb.keep hm fun h => hXb.elim h.1 (by have := h.2; omega)) (PN.keep hm hP fun b hb h => by have := hlow b hb; have := h.2; omega) hW hsz hlow
    (fun b hb => ⟨(hX b hb).1, by have := (hX b hb).2; have := hm.size; omega⟩) (by have := hm.size; omega) hJ hJx hy h0

end Go.Proofs.Ythhbnodnpajljaa
