/-
  A store makes a node over children. No conditions.
-/
import Derived.Test.YthhbnodnpajljaaVxi
import Derived.Test.YthhbnodnpajljaaRows
import Derived.Test.YthhbnodnpajljaaDu
import Derived.Test.YthhbnodnpajljaaDa
import Derived.Test.YthhbnodnpajljaaDb
import Derived.Test.YthhbnodnpajljaaDc
import Derived.Test.YthhbnodnpajljaaDd
set_option linter.unusedVariables false
set_option linter.unusedSimpArgs false
set_option maxRecDepth 100000
set_option maxHeartbeats 4000000
namespace Go.Proofs.Ythhbnodnpajljaa
open Go Go.RowKit Go.Vx


theorem pf_66 : plainF Try.prog 66 = true := by kernel_rfl
theorem tA_27 : isAggT Try.prog 27 = some false := by kernel_rfl
theorem tA_4 : isAggT Try.prog 4 = some false := by kernel_rfl
theorem tF_124_0 : fieldT Try.prog 124 0 = some 0 := by kernel_rfl
theorem tF_124_7 : fieldT Try.prog 124 7 = some 10 := by kernel_rfl
theorem tF_124_8 : fieldT Try.prog 124 8 = some 11 := by kernel_rfl
theorem tF_124_9 : fieldT Try.prog 124 9 = some 12 := by kernel_rfl
theorem tS_140 : sizeT Try.prog 140 = some 1 := by kernel_rfl
theorem tS_3 : sizeT Try.prog 3 = some 1 := by kernel_rfl
theorem tS_4 : sizeT Try.prog 4 = some 1 := by kernel_rfl
theorem tU_27 : Try.prog.underlying 27 = some (.pointer 140) := by kernel_rfl

theorem make_calls (s : Nat) (c kind n : Int) (kids : List T) (A : Option Addr) (cp : Nat) (w : World) (hs : Blk w s #[.int .i64 c] 140) (hc : 0 ≤ c ∧ c < 4611686018427387904) (hk : PNL (.pointer (some ⟨s, 0, none⟩)) w kids) (hA : RowA w A (kids.map T.ptr)) (hcp : (A = none → cp = 0) ∧ ∀ a, A = some a → a = ⟨a.block, a.off, none⟩) (hsz : ∀ t ∈ kids, sz t ≤ 4194304) (hn : kids.length ≤ 1048576) :
    Calls Try.prog 45 #[(.pointer (some ⟨s, 0, none⟩)), (.int .i64 kind), (.int .i64 n), (.slice A kids.length cp)] w (Ret (fun v w' => MakeR w s c kind n kids v w')) := by
  have hlt := hs.lt
  refine calls_xc (n := 118) (f := fun s_ => [(.pointer (some ⟨s, 0, none⟩)), (.int .i64 kind), (.int .i64 n), (.slice A kids.length cp)].getD s_ undef) Try.func45 rfl rfl (by simp) (fun s_ => by simp) ?_
  refine xc_seq ?_
  refine xc_region ?_
  refine xl_op (P := Try.prog) (some 8) rfl rfl (ox_assign (v := (.pointer none)) rfl ?_)
  refine xl_op (P := Try.prog) (some 9) rfl rfl (ox_assign (v := (.int .i64 0)) rfl ?_)
  refine xl_nil ?_
  refine xc_seq ?_
  refine xc_seq ?_
  refine xc_region ?_
  refine xl_op (P := Try.prog) (some 13) rfl rfl (ox_move (v := (.int .i64 kind)) rfl ?_)
  refine xl_op (P := Try.prog) (some 14) rfl rfl (ox_lss (k := .i64) (a := kind) (b := 2) rfl rfl ?_)
  refine xl_op (P := Try.prog) (some 15) rfl rfl (ox_move (v := (.bool (decide ((kind : Int) < 2)))) rfl ?_)
  refine xl_may (P := Try.prog) (some 16) (j := 2) (b := false) (((decide ((kind : Int) < 2))) = false) (.bool (decide ((kind : Int) < 2))) (.int .i64 kind) rfl rfl rfl (may_b ((decide ((kind : Int) < 2))) false) (fun hp => ox_move (v := (.int .i64 kind)) rfl ⟨rfl, rfl⟩) ?_
  refine xl_may (P := Try.prog) (some 17) (j := 2) (b := false) (((decide ((kind : Int) < 2))) = false) (.bool (decide ((kind : Int) < 2))) (.bool (decide ((5 : Int) < kind))) rfl rfl rfl (may_b ((decide ((kind : Int) < 2))) false) (fun hp => ox_gtr (k := .i64) (a := kind) (b := 5) (if_pos (α := Value) (t := (.int .i64 kind)) (e := undef) hp) rfl ⟨rfl, rfl⟩) ?_
  refine xl_op (P := Try.prog) (some 18) rfl rfl (ox_pick_or (a := ((decide ((kind : Int) < 2)))) (b := ((decide ((5 : Int) < kind)))) rfl rfl (fun ha => (if_pos (α := Value) (t := (.bool (decide ((5 : Int) < kind)))) (e := undef) ha)) ?_)
  refine xl_op (P := Try.prog) (some 19) rfl rfl (ox_move (v := (.bool (((decide ((kind : Int) < 2))) || ((decide ((5 : Int) < kind)))))) rfl ?_)
  refine xl_may (P := Try.prog) (some 20) (j := 6) (b := false) (((((decide ((kind : Int) < 2))) || ((decide ((5 : Int) < kind))))) = false) (.bool (((decide ((kind : Int) < 2))) || ((decide ((5 : Int) < kind))))) (.int .i64 n) rfl rfl rfl (may_b ((((decide ((kind : Int) < 2))) || ((decide ((5 : Int) < kind))))) false) (fun hp => ox_move (v := (.int .i64 n)) rfl ⟨rfl, rfl⟩) ?_
  refine xl_may (P := Try.prog) (some 21) (j := 6) (b := false) (((((decide ((kind : Int) < 2))) || ((decide ((5 : Int) < kind))))) = false) (.bool (((decide ((kind : Int) < 2))) || ((decide ((5 : Int) < kind))))) (.bool (decide ((n : Int) < 0))) rfl rfl rfl (may_b ((((decide ((kind : Int) < 2))) || ((decide ((5 : Int) < kind))))) false) (fun hp => ox_lss (k := .i64) (a := n) (b := 0) (if_pos (α := Value) (t := (.int .i64 n)) (e := undef) hp) rfl ⟨rfl, rfl⟩) ?_
  refine xl_op (P := Try.prog) (some 22) rfl rfl (ox_pick_or (a := ((((decide ((kind : Int) < 2))) || ((decide ((5 : Int) < kind)))))) (b := ((decide ((n : Int) < 0)))) rfl rfl (fun ha => (if_pos (α := Value) (t := (.bool (decide ((n : Int) < 0)))) (e := undef) ha)) ?_)
  refine xl_op (P := Try.prog) (some 23) rfl rfl (ox_move (v := (.bool (((((decide ((kind : Int) < 2))) || ((decide ((5 : Int) < kind))))) || ((decide ((n : Int) < 0)))))) rfl ?_)
  refine xl_may (P := Try.prog) (some 24) (j := 10) (b := false) (((((((decide ((kind : Int) < 2))) || ((decide ((5 : Int) < kind))))) || ((decide ((n : Int) < 0))))) = false) (.bool (((((decide ((kind : Int) < 2))) || ((decide ((5 : Int) < kind))))) || ((decide ((n : Int) < 0))))) (.int .i64 n) rfl rfl rfl (may_b ((((((decide ((kind : Int) < 2))) || ((decide ((5 : Int) < kind))))) || ((decide ((n : Int) < 0))))) false) (fun hp => ox_move (v := (.int .i64 n)) rfl ⟨rfl, rfl⟩) ?_
  refine xl_may (P := Try.prog) (some 25) (j := 10) (b := false) (((((((decide ((kind : Int) < 2))) || ((decide ((5 : Int) < kind))))) || ((decide ((n : Int) < 0))))) = false) (.bool (((((decide ((kind : Int) < 2))) || ((decide ((5 : Int) < kind))))) || ((decide ((n : Int) < 0))))) (.bool (decide ((n : Int) ≠ 0))) rfl rfl rfl (may_b ((((((decide ((kind : Int) < 2))) || ((decide ((5 : Int) < kind))))) || ((decide ((n : Int) < 0))))) false) (fun hp => ox_neq (k := .i64) (a := n) (b := 0) (if_pos (α := Value) (t := (.int .i64 n)) (e := undef) hp) rfl ⟨rfl, rfl⟩) ?_
  refine xl_may (P := Try.prog) (some 26) (j := 10) (b := false) (((((((decide ((kind : Int) < 2))) || ((decide ((5 : Int) < kind))))) || ((decide ((n : Int) < 0))))) = false) (.bool (((((decide ((kind : Int) < 2))) || ((decide ((5 : Int) < kind))))) || ((decide ((n : Int) < 0))))) (.bool (decide ((n : Int) ≠ 0))) rfl rfl rfl (may_b ((((((decide ((kind : Int) < 2))) || ((decide ((5 : Int) < kind))))) || ((decide ((n : Int) < 0))))) false) (fun hp => ox_move (v := (.bool (decide ((n : Int) ≠ 0)))) (if_pos (α := Value) (t := (.bool (decide ((n : Int) ≠ 0)))) (e := undef) hp) ⟨rfl, rfl⟩) ?_
  refine xl_may (P := Try.prog) (some 27) (j := 13) (b := true) ((((((((decide ((kind : Int) < 2))) || ((decide ((5 : Int) < kind))))) || ((decide ((n : Int) < 0))))) = false) ∧ ((decide ((n : Int) ≠ 0))) = true) (if ((((((decide ((kind : Int) < 2))) || ((decide ((5 : Int) < kind))))) || ((decide ((n : Int) < 0))))) = false then (.bool (decide ((n : Int) ≠ 0))) else undef) (.int .i64 kind) rfl rfl rfl (may_i _ ((decide ((n : Int) ≠ 0))) true) (fun hp => ox_move (v := (.int .i64 kind)) rfl ⟨rfl, rfl⟩) ?_
  refine xl_may (P := Try.prog) (some 28) (j := 13) (b := true) ((((((((decide ((kind : Int) < 2))) || ((decide ((5 : Int) < kind))))) || ((decide ((n : Int) < 0))))) = false) ∧ ((decide ((n : Int) ≠ 0))) = true) (if ((((((decide ((kind : Int) < 2))) || ((decide ((5 : Int) < kind))))) || ((decide ((n : Int) < 0))))) = false then (.bool (decide ((n : Int) ≠ 0))) else undef) (.bool (decide ((kind : Int) ≠ 2))) rfl rfl rfl (may_i _ ((decide ((n : Int) ≠ 0))) true) (fun hp => ox_neq (k := .i64) (a := kind) (b := 2) (if_pos (α := Value) (t := (.int .i64 kind)) (e := undef) hp) rfl ⟨rfl, rfl⟩) ?_
  refine xl_may (P := Try.prog) (some 29) (j := 10) (b := false) (((((((decide ((kind : Int) < 2))) || ((decide ((5 : Int) < kind))))) || ((decide ((n : Int) < 0))))) = false) (.bool (((((decide ((kind : Int) < 2))) || ((decide ((5 : Int) < kind))))) || ((decide ((n : Int) < 0))))) (.bool (((decide ((n : Int) ≠ 0))) && ((decide ((kind : Int) ≠ 2))))) rfl rfl rfl (may_b ((((((decide ((kind : Int) < 2))) || ((decide ((5 : Int) < kind))))) || ((decide ((n : Int) < 0))))) false) (fun hp => ox_pick_and (a := ((decide ((n : Int) ≠ 0)))) (b := ((decide ((kind : Int) ≠ 2)))) (if_pos (α := Value) (t := (.bool (decide ((n : Int) ≠ 0)))) (e := undef) hp) (fun ha => (if_pos (α := Value) (t := (.bool (decide ((kind : Int) ≠ 2)))) (e := undef) ⟨hp, ha⟩)) rfl ⟨rfl, rfl⟩) ?_
  refine xl_op (P := Try.prog) (some 30) rfl rfl (ox_pick_or (a := ((((((decide ((kind : Int) < 2))) || ((decide ((5 : Int) < kind))))) || ((decide ((n : Int) < 0)))))) (b := ((((decide ((n : Int) ≠ 0))) && ((decide ((kind : Int) ≠ 2)))))) rfl rfl (fun ha => (if_pos (α := Value) (t := (.bool (((decide ((n : Int) ≠ 0))) && ((decide ((kind : Int) ≠ 2)))))) (e := undef) ha)) ?_)
  refine xl_nil ?_
  refine xc_cond (b := (((((((decide ((kind : Int) < 2))) || ((decide ((5 : Int) < kind))))) || ((decide ((n : Int) < 0))))) || ((((decide ((n : Int) ≠ 0))) && ((decide ((kind : Int) ≠ 2))))))) rfl (fun h1 => ?_) (fun h1 => ?_)
  · skip
    have h1' := h1
    try simp only [Bool.or_eq_true, Bool.and_eq_true, decide_eq_true_eq, Bool.or_eq_false_iff, Bool.and_eq_false_iff, decide_eq_false_iff_not, Bool.not_eq_true', Bool.not_eq_false'] at h1'
    refine xc_seq ?_
    refine xc_region ?_
    refine xl_op (P := Try.prog) (some 8) rfl rfl (ox_assign (v := (.pointer none)) rfl ?_)
    refine xl_op (P := Try.prog) (some 9) rfl rfl (ox_assign (v := (.int .i64 101)) rfl ?_)
    refine xl_nil ?_
    refine xc_ret ?_
    change leaves _ _ _ _ _ _ _
    refine leaves_nil (n := 118) (rs := [.tmp 8, .tmp 9]) (vs := [(.pointer none), (.int .i64 101)]) rfl ⟨⟨by decide, rfl⟩, ⟨by decide, rfl⟩, trivial⟩ ?_
    exact .inl ⟨by unfold badKind; omega, rfl, Chg.refl _ _⟩
  · skip
    have h1' := h1
    try simp only [Bool.or_eq_true, Bool.and_eq_true, decide_eq_true_eq, Bool.or_eq_false_iff, Bool.and_eq_false_iff, decide_eq_false_iff_not, Bool.not_eq_true', Bool.not_eq_false'] at h1'
    refine xc_skip ?_
    refine xc_seq ?_
    refine xc_region ?_
    refine xl_op (P := Try.prog) (some 31) rfl rfl (ox_move (v := (.pointer (some ⟨s, 0, none⟩))) rfl ?_)
    refine xl_op (P := Try.prog) (some 32) rfl rfl (ox_move (v := (.int .i64 kind)) rfl ?_)
    refine xl_op (P := Try.prog) (some 33) rfl rfl (ox_move (v := (.int .i64 n)) rfl ?_)
    refine xl_op (P := Try.prog) (some 34) rfl rfl (ox_move (v := (.slice A kids.length cp)) rfl ?_)
    refine xl_op (P := Try.prog) (some 35) rfl rfl (ox_callE (al := [(.slice A kids.length cp)]) pf_66 rfl (ret_mono (clone_calls A kids.length cp (kids.map T.ptr) w hA hcp (by simp) (by simp [T.ptr, Value.oneCell']) (by omega)) ?_))
    rintro _ w1 ⟨ka, kc, rfl, hkc, hrow, e1⟩
    have he1 := e1.size
    refine xl_op (P := Try.prog) (some 36) rfl rfl (ox_move (v := (.int .i64 kind)) rfl ?_)
    refine xl_op (P := Try.prog) (some 37) rfl rfl (ox_eql (k := .i64) (a := kind) (b := 3) rfl rfl ?_)
    refine xl_op (P := Try.prog) (some 38) rfl rfl (ox_move (v := (.bool (decide ((kind : Int) = 3)))) rfl ?_)
    refine xl_may (P := Try.prog) (some 39) (j := 7) (b := false) (((decide ((kind : Int) = 3))) = false) (.bool (decide ((kind : Int) = 3))) (.int .i64 kind) rfl rfl rfl (may_b ((decide ((kind : Int) = 3))) false) (fun hp => ox_move (v := (.int .i64 kind)) rfl ⟨rfl, rfl⟩) ?_
    refine xl_may (P := Try.prog) (some 40) (j := 7) (b := false) (((decide ((kind : Int) = 3))) = false) (.bool (decide ((kind : Int) = 3))) (.bool (decide ((kind : Int) = 5))) rfl rfl rfl (may_b ((decide ((kind : Int) = 3))) false) (fun hp => ox_eql (k := .i64) (a := kind) (b := 5) (if_pos (α := Value) (t := (.int .i64 kind)) (e := undef) hp) rfl ⟨rfl, rfl⟩) ?_
    refine xl_op (P := Try.prog) (some 41) rfl rfl (ox_pick_or (a := ((decide ((kind : Int) = 3)))) (b := ((decide ((kind : Int) = 5)))) rfl rfl (fun ha => (if_pos (α := Value) (t := (.bool (decide ((kind : Int) = 5)))) (e := undef) ha)) ?_)
    refine xl_op (P := Try.prog) (some 42) rfl rfl (ox_mkStruct (ps := [(0, (.pointer (some ⟨s, 0, none⟩))), (2, (.int .i64 kind)), (3, (.int .i64 n)), (5, (kidsV ka kids.length kc)), (8, (.int .i64 1)), (9, (.bool (((decide ((kind : Int) = 3))) || ((decide ((kind : Int) = 5))))))]) (cs := #[(.pointer (some ⟨s, 0, none⟩)), (.int .i64 0), (.int .i64 kind), (.int .i64 n), (.int .i64 0), (.int .i64 0), (.int .i64 0), (.int .i64 0), (kidsV ka kids.length kc), (.int .i64 0), (.int .i64 0), (.int .i64 1), (.bool (((decide ((kind : Int) = 3))) || ((decide ((kind : Int) = 5)))))]) tZ_124 tP_124 rfl (by kernel_rfl) ?_)
    refine xl_op (P := Try.prog) (some 43) rfl rfl (ox_box (v := (.agg #[(.pointer (some ⟨s, 0, none⟩)), (.int .i64 0), (.int .i64 kind), (.int .i64 n), (.int .i64 0), (.int .i64 0), (.int .i64 0), (.int .i64 0), (kidsV ka kids.length kc), (.int .i64 0), (.int .i64 0), (.int .i64 1), (.bool (((decide ((kind : Int) = 3))) || ((decide ((kind : Int) = 5)))))])) rfl ?_)
    intro w2 e2 z1 b1
    replace b1 : Blk w2 w1.heap.size #[(.pointer (some ⟨s, 0, none⟩)), (.int .i64 0), (.int .i64 kind), (.int .i64 n), (.int .i64 0), (.int .i64 0), (.int .i64 0), (.int .i64 0), (kidsV ka kids.length kc), (.int .i64 0), (.int .i64 0), (.int .i64 1), (.bool (((decide ((kind : Int) = 3))) || ((decide ((kind : Int) = 5)))))] 124 := b1
    refine xl_op (P := Try.prog) (some 10) rfl rfl (ox_assign (v := (.pointer (some ⟨w1.heap.size, 0, none⟩))) rfl ?_)
    refine xl_nil ?_
    refine xc_seq ?_
    refine xc_seq ?_
    refine xc_region ?_
    refine xl_op (P := Try.prog) (some 44) rfl rfl (ox_move (v := (.slice A kids.length cp)) rfl ?_)
    refine xl_op (P := Try.prog) (some 45) rfl rfl (ox_len (A := A) (n := kids.length) (cp := cp) rfl tU_28 rfl ?_)
    refine xl_op (P := Try.prog) (some 46) rfl rfl (ox_move (v := (.int .i64 0)) rfl ?_)
    refine xl_nil ?_
    refine xc_block ?_
    refine xc_loopN (fun m f W => ∃ (i : Nat), m = kids.length - i ∧ i ≤ kids.length ∧ f 0 = (.pointer (some ⟨s, 0, none⟩)) ∧ f 10 = (.pointer (some ⟨w1.heap.size, 0, none⟩)) ∧ f 44 = (.slice A kids.length cp) ∧ f 45 = (.int .i64 ((kids.length : Nat))) ∧ f 46 = (.int .i64 ((i : Int))) ∧ f 8 = (.pointer none) ∧ f 9 = (.int .i64 0) ∧ Blk W w1.heap.size #[(.pointer (some ⟨s, 0, none⟩)), (.int .i64 0), (.int .i64 kind), (.int .i64 n), (.int .i64 0), (.int .i64 0), (.int .i64 0), (.int .i64 0), (kidsV ka kids.length kc), (.int .i64 (wdL (kids.take i))), (.int .i64 (lcL (kids.take i))), (.int .i64 (tot (1 + szL (kids.take i)))), (.bool ((decide (kind = 3) || decide (kind = 5)) || flL (kids.take i)))] 124 ∧ Ext w1 W) (kids.length) ?_ ?_
    · exact ⟨0, by omega, by omega, rfl, rfl, rfl, (by first | exact rfl | exact (congrArg (Value.int .i64) (by omega))), (by first | exact rfl | exact (congrArg (Value.int .i64) (by omega))), rfl, rfl, (by simpa [tot, wdL, lcL, szL, flL] using b1), e2⟩
    · rintro m f1 w3 ⟨i, hm, hi, g0_f1, g10_f1, g44_f1, g45_f1, g46_f1, g8_f1, g9_f1, b_f1, e_f1⟩
      have hszk := szL_bd_take hsz i
      have hwdk := wdL_bd_take hsz i
      have hlck := lcL_le (kids.take i)
      have htot := tot_bd (1 + szL (kids.take i))
      have hzb := e_f1.size
      have hnb := b_f1.lt
      refine xc_seq ?_
      refine xc_region ?_
      refine xl_op (P := Try.prog) (some 47) rfl rfl (ox_lss (k := .i64) (a := ((i : Int))) (b := ((kids.length : Nat))) g46_f1 g45_f1 ?_)
      refine xl_nil ?_
      refine xc_seq ?_
      refine xc_if (p := ((i : Int) : Int) < ((kids.length : Nat))) rfl (fun h2 => ?_) (fun h2 => ?_)
      · skip
        obtain ⟨u, hu⟩ := get_ex (l := kids) (i := i) (by omega)
        obtain ⟨g, o, rfl⟩ := hA.ex (by intro hh; rw [List.map_eq_nil_iff] at hh; rw [hh] at hu; simp at hu)
        have hcu := cellsL_get ((hA.ext e1).ext e_f1).cells (i := i) (v := u.ptr) (by simp [hu])
        have hpu := ((hk.get hu).ext e1).ext e_f1
        have hbu := hpu.blk
        have hnu := hbu.lt
        have hszu := hsz u (List.mem_of_getElem? hu)
        have hwdu := wd_bd u
        have hlcu := lc_bd u
        have hsp := sz_pos u
        have hub : u.b < w.heap.size := (hk.get hu).blk.lt
        refine xc_skip ?_
        refine xc_seq ?_
        refine xc_block ?_
        refine xc_seq ?_
        refine xc_region ?_
        refine xl_op (P := Try.prog) (some 48) rfl rfl (ox_indexAddr (b := g) (o := o) (i := ((i : Int))) tE_28 g44_f1 g46_f1 (by omega) (by omega) ?_)
        refine xl_op (P := Try.prog) (some 49) rfl rfl (ox_load (v := (.pointer (some ⟨u.b, 0, none⟩))) tA_36 rfl (by simpa [T.ptr] using hcu) ?_)
        refine xl_op (P := Try.prog) (some 12) rfl rfl (ox_assign (v := (.pointer (some ⟨u.b, 0, none⟩))) rfl ?_)
        refine xl_nil ?_
        refine xc_seq ?_
        refine xc_seq ?_
        refine xc_region ?_
        refine xl_op (P := Try.prog) (some 50) rfl rfl (ox_move (v := (.pointer (some ⟨u.b, 0, none⟩))) rfl ?_)
        refine xl_op (P := Try.prog) (some 51) rfl rfl (ox_nilCheck (p := ⟨u.b, 0, none⟩) rfl ?_)
        refine xl_op (P := Try.prog) (some 52) rfl rfl (ox_fieldAddr (b := u.b) (o := 0) tF_124_0 rfl ?_)
        refine xl_op (P := Try.prog) (some 53) rfl rfl (ox_load (v := (.pointer (some ⟨s, 0, none⟩))) tA_27 rfl (hbu.cell rfl) ?_)
        refine xl_op (P := Try.prog) (some 54) rfl rfl (ox_move (v := (.pointer (some ⟨s, 0, none⟩))) g0_f1 ?_)
        refine xl_op (P := Try.prog) (some 55) rfl rfl (ox_neqPtr (a := s) (b := s) tU_27 tS_140 rfl rfl ((hs.ext e1).ext e_f1) ((hs.ext e1).ext e_f1) ?_)
        refine xl_nil ?_
        refine xc_cond_f (congrArg Value.bool (decide_eq_false (by simp))) ?_
        refine xc_skip ?_
        refine xc_seq ?_
        refine xc_regionE [11] (fun W_ => Chg (fun _ => False) w3 W_) hmix ?_
        intro w4 e3 z2
        have hS1 : Chg (fun _ => False) w3 w4 := Ext.to e3
        refine xd_pure 0 (some 56) rfl rfl (by kernel_rfl) (v := (.pointer (some ⟨w1.heap.size, 0, none⟩))) (.inl ⟨rfl, fun W_ hW_ => ox_move (v := (.pointer (some ⟨w1.heap.size, 0, none⟩))) g10_f1 ⟨rfl, rfl⟩⟩) ?_
        refine xd_pure 1 (some 57) rfl rfl (by kernel_rfl) (v := (.pointer (some ⟨w1.heap.size, 0, none⟩))) (.inl ⟨rfl, fun W_ hW_ => ox_nilCheck (p := ⟨w1.heap.size, 0, none⟩) rfl ⟨rfl, rfl⟩⟩) ?_
        refine xd_pure 2 (some 58) rfl rfl (by kernel_rfl) (v := (.pointer (some ⟨w1.heap.size, 9, none⟩))) (.inl ⟨rfl, fun W_ hW_ => ox_fieldAddr (b := w1.heap.size) (o := 0) tF_124_6 rfl ⟨rfl, rfl⟩⟩) ?_
        refine xd_take 3 (some 59) rfl rfl (by kernel_rfl) (v := (.int .i64 (wdL (kids.take i)))) (.inl ⟨rfl, fun W_ hW_ => ox_load (v := (.int .i64 (wdL (kids.take i)))) tA_3 rfl ((b_f1.ext hW_).cell rfl) ⟨rfl, rfl⟩⟩) hS1 ?_
        refine xd_pure 4 (some 60) rfl rfl (by kernel_rfl) (v := (.pointer (some ⟨u.b, 0, none⟩))) (.inl ⟨rfl, fun W_ hW_ => ox_move (v := (.pointer (some ⟨u.b, 0, none⟩))) rfl ⟨rfl, rfl⟩⟩) ?_
        refine xd_pure 5 (some 61) rfl rfl (by kernel_rfl) (v := (.pointer (some ⟨u.b, 0, none⟩))) (.inl ⟨rfl, fun W_ hW_ => ox_nilCheck (p := ⟨u.b, 0, none⟩) rfl ⟨rfl, rfl⟩⟩) ?_
        refine xd_pure 6 (some 62) rfl rfl (by kernel_rfl) (v := (.pointer (some ⟨u.b, 9, none⟩))) (.inl ⟨rfl, fun W_ hW_ => ox_fieldAddr (b := u.b) (o := 0) tF_124_6 rfl ⟨rfl, rfl⟩⟩) ?_
        refine xd_take 7 (some 63) rfl rfl (by kernel_rfl) (v := (.int .i64 (wd u))) (.inl ⟨rfl, fun W_ hW_ => ox_load (v := (.int .i64 (wd u))) tA_3 rfl ((hbu.ext hW_).cell rfl) ⟨rfl, rfl⟩⟩) hS1 ?_
        refine xd_pure 8 (some 64) rfl rfl (by kernel_rfl) (v := (.int .i64 (wdL (kids.take i) + (wd u)))) (.inl ⟨rfl, fun W_ hW_ => ox_add64 (a := (wdL (kids.take i))) (b := (wd u)) rfl rfl (by omega) ⟨rfl, rfl⟩⟩) ?_
        refine xd_pure 9 (some 65) rfl rfl (by kernel_rfl) (v := (.pointer (some ⟨w1.heap.size, 0, none⟩))) (.inl ⟨rfl, fun W_ hW_ => ox_nilCheck (p := ⟨w1.heap.size, 0, none⟩) rfl ⟨rfl, rfl⟩⟩) ?_
        refine xd_pure 10 (some 66) rfl rfl (by kernel_rfl) (v := (.pointer (some ⟨w1.heap.size, 9, none⟩))) (.inl ⟨rfl, fun W_ hW_ => ox_fieldAddr (b := w1.heap.size) (o := 0) tF_124_6 rfl ⟨rfl, rfl⟩⟩) ?_
        refine xd_one 11 none rfl rfl (by kernel_rfl) rfl (ox_store (n := 1) (vs := [(.int .i64 (wdL (kids.take i) + (wd u)))]) tS_3 rfl (v := (.int .i64 (wdL (kids.take i) + (wd u)))) rfl rfl rfl rfl (b_f1.ext e3) (Nat.le_of_ble_eq_true rfl) ?_)
        intro w5 e4 z3 b2
        replace b2 : Blk w5 w1.heap.size #[(.pointer (some ⟨s, 0, none⟩)), (.int .i64 0), (.int .i64 kind), (.int .i64 n), (.int .i64 0), (.int .i64 0), (.int .i64 0), (.int .i64 0), (kidsV ka kids.length kc), (.int .i64 (wdL (kids.take i) + (wd u))), (.int .i64 (lcL (kids.take i))), (.int .i64 (tot (1 + szL (kids.take i)))), (.bool ((decide (kind = 3) || decide (kind = 5)) || flL (kids.take i)))] 124 := b2
        refine ⟨.inl (by decide), ?_⟩
        refine xd_done (by kernel_rfl) ?_ _
        refine xc_seq ?_
        refine xc_regionE [11] (fun W_ => Chg (fun _ => False) w5 W_) hmix ?_
        intro w6 e5 z4
        have hS2 : Chg (fun _ => False) w5 w6 := Ext.to e5
        refine xd_pure 0 (some 67) rfl rfl (by kernel_rfl) (v := (.pointer (some ⟨w1.heap.size, 0, none⟩))) (.inl ⟨rfl, fun W_ hW_ => ox_move (v := (.pointer (some ⟨w1.heap.size, 0, none⟩))) g10_f1 ⟨rfl, rfl⟩⟩) ?_
        refine xd_pure 1 (some 68) rfl rfl (by kernel_rfl) (v := (.pointer (some ⟨w1.heap.size, 0, none⟩))) (.inl ⟨rfl, fun W_ hW_ => ox_nilCheck (p := ⟨w1.heap.size, 0, none⟩) rfl ⟨rfl, rfl⟩⟩) ?_
        refine xd_pure 2 (some 69) rfl rfl (by kernel_rfl) (v := (.pointer (some ⟨w1.heap.size, 10, none⟩))) (.inl ⟨rfl, fun W_ hW_ => ox_fieldAddr (b := w1.heap.size) (o := 0) tF_124_7 rfl ⟨rfl, rfl⟩⟩) ?_
        refine xd_take 3 (some 70) rfl rfl (by kernel_rfl) (v := (.int .i64 (lcL (kids.take i)))) (.inl ⟨rfl, fun W_ hW_ => ox_load (v := (.int .i64 (lcL (kids.take i)))) tA_3 rfl ((b2.ext hW_).cell rfl) ⟨rfl, rfl⟩⟩) hS2 ?_
        refine xd_pure 4 (some 71) rfl rfl (by kernel_rfl) (v := (.pointer (some ⟨u.b, 0, none⟩))) (.inl ⟨rfl, fun W_ hW_ => ox_move (v := (.pointer (some ⟨u.b, 0, none⟩))) rfl ⟨rfl, rfl⟩⟩) ?_
        refine xd_pure 5 (some 72) rfl rfl (by kernel_rfl) (v := (.pointer (some ⟨u.b, 0, none⟩))) (.inl ⟨rfl, fun W_ hW_ => ox_nilCheck (p := ⟨u.b, 0, none⟩) rfl ⟨rfl, rfl⟩⟩) ?_
        refine xd_pure 6 (some 73) rfl rfl (by kernel_rfl) (v := (.pointer (some ⟨u.b, 10, none⟩))) (.inl ⟨rfl, fun W_ hW_ => ox_fieldAddr (b := u.b) (o := 0) tF_124_7 rfl ⟨rfl, rfl⟩⟩) ?_
        have q1 := ((hbu.ext e3).keep1 e4 (by have _q := hbu.lt; omega))
        refine xd_take 7 (some 74) rfl rfl (by kernel_rfl) (v := (.int .i64 (lc u))) (.inl ⟨rfl, fun W_ hW_ => ox_load (v := (.int .i64 (lc u))) tA_3 rfl ((q1.ext hW_).cell rfl) ⟨rfl, rfl⟩⟩) hS2 ?_
        refine xd_pure 8 (some 75) rfl rfl (by kernel_rfl) (v := (.int .i64 (lcL (kids.take i) + (lc u)))) (.inl ⟨rfl, fun W_ hW_ => ox_add64 (a := (lcL (kids.take i))) (b := (lc u)) rfl rfl (by omega) ⟨rfl, rfl⟩⟩) ?_
        refine xd_pure 9 (some 76) rfl rfl (by kernel_rfl) (v := (.pointer (some ⟨w1.heap.size, 0, none⟩))) (.inl ⟨rfl, fun W_ hW_ => ox_nilCheck (p := ⟨w1.heap.size, 0, none⟩) rfl ⟨rfl, rfl⟩⟩) ?_
        refine xd_pure 10 (some 77) rfl rfl (by kernel_rfl) (v := (.pointer (some ⟨w1.heap.size, 10, none⟩))) (.inl ⟨rfl, fun W_ hW_ => ox_fieldAddr (b := w1.heap.size) (o := 0) tF_124_7 rfl ⟨rfl, rfl⟩⟩) ?_
        refine xd_one 11 none rfl rfl (by kernel_rfl) rfl (ox_store (n := 1) (vs := [(.int .i64 (lcL (kids.take i) + (lc u)))]) tS_3 rfl (v := (.int .i64 (lcL (kids.take i) + (lc u)))) rfl rfl rfl rfl (b2.ext e5) (Nat.le_of_ble_eq_true rfl) ?_)
        intro w7 e6 z5 b3
        replace b3 : Blk w7 w1.heap.size #[(.pointer (some ⟨s, 0, none⟩)), (.int .i64 0), (.int .i64 kind), (.int .i64 n), (.int .i64 0), (.int .i64 0), (.int .i64 0), (.int .i64 0), (kidsV ka kids.length kc), (.int .i64 (wdL (kids.take i) + (wd u))), (.int .i64 (lcL (kids.take i) + (lc u))), (.int .i64 (tot (1 + szL (kids.take i)))), (.bool ((decide (kind = 3) || decide (kind = 5)) || flL (kids.take i)))] 124 := b3
        refine ⟨.inl (by decide), ?_⟩
        refine xd_done (by kernel_rfl) ?_ _
        refine xc_seq ?_
        refine xc_regionE [13] (fun W_ => Chg (fun _ => False) w7 W_) hmix ?_
        intro w8 e7 z6
        have hS3 : Chg (fun _ => False) w7 w8 := Ext.to e7
        refine xd_pure 0 (some 78) rfl rfl (by kernel_rfl) (v := (.pointer (some ⟨w1.heap.size, 0, none⟩))) (.inl ⟨rfl, fun W_ hW_ => ox_move (v := (.pointer (some ⟨w1.heap.size, 0, none⟩))) g10_f1 ⟨rfl, rfl⟩⟩) ?_
        refine xd_pure 1 (some 79) rfl rfl (by kernel_rfl) (v := (.pointer (some ⟨w1.heap.size, 0, none⟩))) (.inl ⟨rfl, fun W_ hW_ => ox_move (v := (.pointer (some ⟨w1.heap.size, 0, none⟩))) g10_f1 ⟨rfl, rfl⟩⟩) ?_
        refine xd_pure 2 (some 80) rfl rfl (by kernel_rfl) (v := (.pointer (some ⟨w1.heap.size, 0, none⟩))) (.inl ⟨rfl, fun W_ hW_ => ox_nilCheck (p := ⟨w1.heap.size, 0, none⟩) rfl ⟨rfl, rfl⟩⟩) ?_
        refine xd_pure 3 (some 81) rfl rfl (by kernel_rfl) (v := (.pointer (some ⟨w1.heap.size, 11, none⟩))) (.inl ⟨rfl, fun W_ hW_ => ox_fieldAddr (b := w1.heap.size) (o := 0) tF_124_8 rfl ⟨rfl, rfl⟩⟩) ?_
        refine xd_take 4 (some 82) rfl rfl (by kernel_rfl) (v := (.int .i64 (tot (1 + szL (kids.take i))))) (.inl ⟨rfl, fun W_ hW_ => ox_load (v := (.int .i64 (tot (1 + szL (kids.take i))))) tA_3 rfl ((b3.ext hW_).cell rfl) ⟨rfl, rfl⟩⟩) hS3 ?_
        refine xd_pure 5 (some 83) rfl rfl (by kernel_rfl) (v := (.pointer (some ⟨u.b, 0, none⟩))) (.inl ⟨rfl, fun W_ hW_ => ox_move (v := (.pointer (some ⟨u.b, 0, none⟩))) rfl ⟨rfl, rfl⟩⟩) ?_
        refine xd_pure 6 (some 84) rfl rfl (by kernel_rfl) (v := (.pointer (some ⟨u.b, 0, none⟩))) (.inl ⟨rfl, fun W_ hW_ => ox_nilCheck (p := ⟨u.b, 0, none⟩) rfl ⟨rfl, rfl⟩⟩) ?_
        refine xd_pure 7 (some 85) rfl rfl (by kernel_rfl) (v := (.pointer (some ⟨u.b, 11, none⟩))) (.inl ⟨rfl, fun W_ hW_ => ox_fieldAddr (b := u.b) (o := 0) tF_124_8 rfl ⟨rfl, rfl⟩⟩) ?_
        have q2 := ((hbu.ext e3).keep1 e4 (by have _q := hbu.lt; omega))
        have q3 := ((q2.ext e5).keep1 e6 (by have _q := hbu.lt; omega))
        refine xd_take 8 (some 86) rfl rfl (by kernel_rfl) (v := (.int .i64 (sz u))) (.inl ⟨rfl, fun W_ hW_ => ox_load (v := (.int .i64 (sz u))) tA_3 rfl ((q3.ext hW_).cell rfl) ⟨rfl, rfl⟩⟩) hS3 ?_
        refine xd_pure 9 (some 87) rfl rfl (by kernel_rfl) (v := (.int .i64 (tot (1 + szL (kids.take i)) + (sz u)))) (.inl ⟨rfl, fun W_ hW_ => ox_add64 (a := (tot (1 + szL (kids.take i)))) (b := (sz u)) rfl rfl (by omega) ⟨rfl, rfl⟩⟩) ?_
        refine xd_pure 10 (some 88) rfl rfl (by kernel_rfl) (v := (.int .i64 (if 4194305 < tot (1 + szL (kids.take i)) + (sz u) then 4194305 else tot (1 + szL (kids.take i)) + (sz u)))) (.inl ⟨rfl, fun W_ hW_ => ox_min (k := .i64) (a := (tot (1 + szL (kids.take i)) + (sz u))) (b := 4194305) rfl rfl rfl ⟨rfl, rfl⟩⟩) ?_
        refine xd_pure 11 (some 89) rfl rfl (by kernel_rfl) (v := (.pointer (some ⟨w1.heap.size, 0, none⟩))) (.inl ⟨rfl, fun W_ hW_ => ox_nilCheck (p := ⟨w1.heap.size, 0, none⟩) rfl ⟨rfl, rfl⟩⟩) ?_
        refine xd_pure 12 (some 90) rfl rfl (by kernel_rfl) (v := (.pointer (some ⟨w1.heap.size, 11, none⟩))) (.inl ⟨rfl, fun W_ hW_ => ox_fieldAddr (b := w1.heap.size) (o := 0) tF_124_8 rfl ⟨rfl, rfl⟩⟩) ?_
        refine xd_one 13 none rfl rfl (by kernel_rfl) rfl (ox_store (n := 1) (vs := [(.int .i64 (if 4194305 < tot (1 + szL (kids.take i)) + (sz u) then 4194305 else tot (1 + szL (kids.take i)) + (sz u)))]) tS_3 rfl (v := (.int .i64 (if 4194305 < tot (1 + szL (kids.take i)) + (sz u) then 4194305 else tot (1 + szL (kids.take i)) + (sz u)))) rfl rfl rfl rfl (b3.ext e7) (Nat.le_of_ble_eq_true rfl) ?_)
        intro w9 e8 z7 b4
        replace b4 : Blk w9 w1.heap.size #[(.pointer (some ⟨s, 0, none⟩)), (.int .i64 0), (.int .i64 kind), (.int .i64 n), (.int .i64 0), (.int .i64 0), (.int .i64 0), (.int .i64 0), (kidsV ka kids.length kc), (.int .i64 (wdL (kids.take i) + (wd u))), (.int .i64 (lcL (kids.take i) + (lc u))), (.int .i64 (if 4194305 < tot (1 + szL (kids.take i)) + (sz u) then 4194305 else tot (1 + szL (kids.take i)) + (sz u))), (.bool ((decide (kind = 3) || decide (kind = 5)) || flL (kids.take i)))] 124 := b4
        refine ⟨.inl (by decide), ?_⟩
        refine xd_done (by kernel_rfl) ?_ _
        refine xc_region ?_
        refine xl_op (P := Try.prog) (some 91) rfl rfl (ox_move (v := (.pointer (some ⟨w1.heap.size, 0, none⟩))) g10_f1 ?_)
        refine xl_op (P := Try.prog) (some 92) rfl rfl (ox_move (v := (.pointer (some ⟨w1.heap.size, 0, none⟩))) g10_f1 ?_)
        refine xl_op (P := Try.prog) (some 93) rfl rfl (ox_nilCheck (p := ⟨w1.heap.size, 0, none⟩) rfl ?_)
        refine xl_op (P := Try.prog) (some 94) rfl rfl (ox_fieldAddr (b := w1.heap.size) (o := 0) tF_124_9 rfl ?_)
        refine xl_op (P := Try.prog) (some 95) rfl rfl (ox_load (v := (.bool ((decide (kind = 3) || decide (kind = 5)) || flL (kids.take i)))) tA_4 rfl (b4.cell rfl) ?_)
        refine xl_op (P := Try.prog) (some 96) rfl rfl (ox_move (v := (.bool ((decide (kind = 3) || decide (kind = 5)) || flL (kids.take i)))) rfl ?_)
        refine xl_may (P := Try.prog) (some 97) (j := 5) (b := false) ((((decide (kind = 3) || decide (kind = 5)) || flL (kids.take i))) = false) (.bool ((decide (kind = 3) || decide (kind = 5)) || flL (kids.take i))) (.pointer (some ⟨u.b, 0, none⟩)) rfl rfl rfl (may_b (((decide (kind = 3) || decide (kind = 5)) || flL (kids.take i))) false) (fun hp => ox_move (v := (.pointer (some ⟨u.b, 0, none⟩))) rfl ⟨rfl, rfl⟩) ?_
        refine xl_may (P := Try.prog) (some 98) (j := 5) (b := false) ((((decide (kind = 3) || decide (kind = 5)) || flL (kids.take i))) = false) (.bool ((decide (kind = 3) || decide (kind = 5)) || flL (kids.take i))) (.pointer (some ⟨u.b, 0, none⟩)) rfl rfl rfl (may_b (((decide (kind = 3) || decide (kind = 5)) || flL (kids.take i))) false) (fun hp => ox_nilCheck (p := ⟨u.b, 0, none⟩) (if_pos (α := Value) (t := (.pointer (some ⟨u.b, 0, none⟩))) (e := undef) hp) ⟨rfl, rfl⟩) ?_
        refine xl_may (P := Try.prog) (some 99) (j := 5) (b := false) ((((decide (kind = 3) || decide (kind = 5)) || flL (kids.take i))) = false) (.bool ((decide (kind = 3) || decide (kind = 5)) || flL (kids.take i))) (.pointer (some ⟨u.b, 12, none⟩)) rfl rfl rfl (may_b (((decide (kind = 3) || decide (kind = 5)) || flL (kids.take i))) false) (fun hp => ox_fieldAddr (b := u.b) (o := 0) tF_124_9 (if_pos (α := Value) (t := (.pointer (some ⟨u.b, 0, none⟩))) (e := undef) hp) ⟨rfl, rfl⟩) ?_
        have q4 := ((hbu.ext e3).keep1 e4 (by have _q := hbu.lt; omega))
        have q5 := ((q4.ext e5).keep1 e6 (by have _q := hbu.lt; omega))
        have q6 := ((q5.ext e7).keep1 e8 (by have _q := hbu.lt; omega))
        refine xl_may (P := Try.prog) (some 100) (j := 5) (b := false) ((((decide (kind = 3) || decide (kind = 5)) || flL (kids.take i))) = false) (.bool ((decide (kind = 3) || decide (kind = 5)) || flL (kids.take i))) (.bool (fl u)) rfl rfl rfl (may_b (((decide (kind = 3) || decide (kind = 5)) || flL (kids.take i))) false) (fun hp => ox_load (v := (.bool (fl u))) tA_4 (if_pos (α := Value) (t := (.pointer (some ⟨u.b, 12, none⟩))) (e := undef) hp) (q6.cell rfl) ⟨rfl, rfl⟩) ?_
        refine xl_op (P := Try.prog) (some 101) rfl rfl (ox_pick_or (a := (((decide (kind = 3) || decide (kind = 5)) || flL (kids.take i)))) (b := ((fl u))) rfl rfl (fun ha => (if_pos (α := Value) (t := (.bool (fl u))) (e := undef) ha)) ?_)
        refine xl_op (P := Try.prog) (some 102) rfl rfl (ox_nilCheck (p := ⟨w1.heap.size, 0, none⟩) rfl ?_)
        refine xl_op (P := Try.prog) (some 103) rfl rfl (ox_fieldAddr (b := w1.heap.size) (o := 0) tF_124_9 rfl ?_)
        refine xl_op (P := Try.prog) none rfl rfl (ox_store (n := 1) (vs := [(.bool ((((decide (kind = 3) || decide (kind = 5)) || flL (kids.take i))) || ((fl u))))]) tS_4 rfl (v := (.bool ((((decide (kind = 3) || decide (kind = 5)) || flL (kids.take i))) || ((fl u))))) rfl rfl rfl rfl b4 (Nat.le_of_ble_eq_true rfl) ?_)
        intro w10 e9 z8 b5
        replace b5 : Blk w10 w1.heap.size #[(.pointer (some ⟨s, 0, none⟩)), (.int .i64 0), (.int .i64 kind), (.int .i64 n), (.int .i64 0), (.int .i64 0), (.int .i64 0), (.int .i64 0), (kidsV ka kids.length kc), (.int .i64 (wdL (kids.take i) + (wd u))), (.int .i64 (lcL (kids.take i) + (lc u))), (.int .i64 (if 4194305 < tot (1 + szL (kids.take i)) + (sz u) then 4194305 else tot (1 + szL (kids.take i)) + (sz u))), (.bool ((((decide (kind = 3) || decide (kind = 5)) || flL (kids.take i))) || ((fl u))))] 124 := b5
        refine xl_nil ?_
        refine xc_region ?_
        refine xl_op (P := Try.prog) (some 104) rfl rfl (ox_add64 (a := ((i : Int))) (b := 1) g46_f1 rfl (by omega) ?_)
        refine xl_op (P := Try.prog) (some 46) rfl rfl (ox_move (v := (.int .i64 ((i : Int) + 1))) rfl ?_)
        refine xl_nil ?_
        exact ⟨rfl, kids.length - (i + 1), by omega, i + 1, by omega, by omega, g0_f1, g10_f1, g44_f1, g45_f1, (by first | exact rfl | exact (congrArg (Value.int .i64) (by omega))), g8_f1, g9_f1, (by rw [wdL_succ hu, lcL_succ hu, szL_succ hu, flL_succ hu, ← Int.add_assoc, ← tot_succ (by have := sz_pos u; omega), ← Bool.or_assoc]; exact b5), ((Ext.chg1 (Ext.chg1 (Ext.trans (Ext.chg1 (Ext.trans (Ext.chg1 (Ext.trans e_f1 e3) e4 (by omega)) e5) e6 (by omega)) e7) e8 (by omega)) e9 (by omega)))⟩
      · skip
        refine xc_exit ?_
        refine xc_seq ?_
        refine xc_seq ?_
        refine xc_region ?_
        refine xl_op (P := Try.prog) (some 105) rfl rfl (ox_move (v := (.pointer (some ⟨w1.heap.size, 0, none⟩))) g10_f1 ?_)
        refine xl_op (P := Try.prog) (some 106) rfl rfl (ox_nilCheck (p := ⟨w1.heap.size, 0, none⟩) rfl ?_)
        refine xl_op (P := Try.prog) (some 107) rfl rfl (ox_fieldAddr (b := w1.heap.size) (o := 0) tF_124_8 rfl ?_)
        refine xl_op (P := Try.prog) (some 108) rfl rfl (ox_load (v := (.int .i64 (tot (1 + szL (kids.take i))))) tA_3 rfl (b_f1.cell rfl) ?_)
        refine xl_op (P := Try.prog) (some 109) rfl rfl (ox_gtr (k := .i64) (a := (tot (1 + szL (kids.take i)))) (b := 4194304) rfl rfl ?_)
        refine xl_nil ?_
        refine xc_if (p := (4194304 : Int) < (tot (1 + szL (kids.take i)))) rfl (fun h3 => ?_) (fun h3 => ?_)
        · skip
          refine xc_seq ?_
          refine xc_region ?_
          refine xl_op (P := Try.prog) (some 8) rfl rfl (ox_assign (v := (.pointer none)) rfl ?_)
          refine xl_op (P := Try.prog) (some 9) rfl rfl (ox_assign (v := (.int .i64 6)) rfl ?_)
          refine xl_nil ?_
          refine xc_ret ?_
          change leaves _ _ _ _ _ _ _
          refine leaves_nil (n := 118) (rs := [.tmp 8, .tmp 9]) (vs := [(.pointer none), (.int .i64 6)]) rfl ⟨⟨by decide, rfl⟩, ⟨by decide, rfl⟩, trivial⟩ ?_
          exact .inr (.inl ⟨by unfold badKind; omega, by have h9 := h3; rw [List.take_of_length_le (by omega)] at h9; unfold tot at h9; split at h9 <;> omega, rfl, Ext.trans e1 e_f1⟩)
        · skip
          refine xc_skip ?_
          refine xc_seq ?_
          refine xc_region ?_
          refine xl_op (P := Try.prog) (some 110) rfl rfl (ox_move (v := (.pointer (some ⟨w1.heap.size, 0, none⟩))) g10_f1 ?_)
          refine xl_op (P := Try.prog) (some 111) rfl rfl (ox_move (v := (.pointer (some ⟨s, 0, none⟩))) g0_f1 ?_)
          refine xl_op (P := Try.prog) (some 112) rfl rfl (ox_nilCheck (p := ⟨s, 0, none⟩) rfl ?_)
          refine xl_op (P := Try.prog) (some 113) rfl rfl (ox_fieldAddr (b := s) (o := 0) tF_140_0 rfl ?_)
          refine xl_op (P := Try.prog) (some 114) rfl rfl (ox_callE (al := [(.pointer (some ⟨s, 0, none⟩)), (.int .i64 1)]) pf_64 rfl (ret_mono (add_calls s c 1 w3 ((hs.ext e1).ext e_f1) (by omega)) ?_))
          rintro _ w11 ⟨rfl, e10, z9, b6⟩
          have he10 := e10.size
          refine xl_op (P := Try.prog) (some 115) rfl rfl (ox_nilCheck (p := ⟨w1.heap.size, 0, none⟩) rfl ?_)
          refine xl_op (P := Try.prog) (some 116) rfl rfl (ox_fieldAddr (b := w1.heap.size) (o := 0) tF_124_1 rfl ?_)
          have q7 := (b_f1.keep1 e10 (b_f1.ne ((hs.ext e1).ext e_f1) (by decide)))
          refine xl_op (P := Try.prog) none rfl rfl (ox_store (n := 1) (vs := [(.int .i64 (c + 1))]) tS_3 rfl (v := (.int .i64 (c + 1))) rfl rfl rfl rfl q7 (Nat.le_of_ble_eq_true rfl) ?_)
          intro w12 e11 z10 b7
          replace b7 : Blk w12 w1.heap.size #[(.pointer (some ⟨s, 0, none⟩)), (.int .i64 (c + 1)), (.int .i64 kind), (.int .i64 n), (.int .i64 0), (.int .i64 0), (.int .i64 0), (.int .i64 0), (kidsV ka kids.length kc), (.int .i64 (wdL (kids.take i))), (.int .i64 (lcL (kids.take i))), (.int .i64 (tot (1 + szL (kids.take i)))), (.bool ((decide (kind = 3) || decide (kind = 5)) || flL (kids.take i)))] 124 := b7
          refine xl_nil ?_
          refine xc_seq ?_
          refine xc_region ?_
          refine xl_op (P := Try.prog) (some 117) rfl rfl (ox_move (v := (.pointer (some ⟨w1.heap.size, 0, none⟩))) g10_f1 ?_)
          refine xl_op (P := Try.prog) (some 8) rfl rfl (ox_assign (v := (.pointer (some ⟨w1.heap.size, 0, none⟩))) rfl ?_)
          refine xl_op (P := Try.prog) (some 9) rfl rfl (ox_assign (v := (.int .i64 0)) rfl ?_)
          refine xl_nil ?_
          refine xc_ret ?_
          change leaves _ _ _ _ _ _ _
          refine leaves_nil (n := 118) (rs := [.tmp 8, .tmp 9]) (vs := [(.pointer (some ⟨w1.heap.size, 0, none⟩)), (.int .i64 0)]) rfl ⟨⟨by decide, rfl⟩, ⟨by decide, rfl⟩, trivial⟩ ?_
          have hti : kids.take i = kids := List.take_of_length_le (by omega)
          have h9 := h3; rw [hti] at h9
          have htot2 : tot (1 + szL kids) = 1 + szL kids ∧ 1 + szL kids ≤ 4194304 := by unfold tot at h9 ⊢; split at h9 <;> (constructor <;> (try split) <;> omega)
          have b9 := b7; rw [hti, htot2.1] at b9
          have hE : Chg (fun x => x = s) w w12 := (Chg.chg1 (Chg.chg1 (Ext.to (Ext.trans e1 e_f1)) e10 (by first | (right; omega) | (left; simp))) e11 (by first | (right; omega) | (left; simp)))
          have hE1 : Chg (fun x => x = s) w1 w12 := (Chg.chg1 (Chg.chg1 (Ext.to e_f1) e10 (by first | (right; omega) | (left; simp))) e11 (by first | (right; omega) | (left; simp)))
          have hrow2 : rowAt w12 ka kids ∧ ∀ k ∈ ka, w.heap.size ≤ k := by
            cases ka with
            | none => exact ⟨show kids = [] by simpa using hrow, by simp⟩
            | some k => obtain ⟨cur, hb, ht, hk1⟩ := hrow; exact ⟨⟨cur, hb.keep hE1 (by omega), ht⟩, by simpa using hk1⟩
          exact .inr (.inr ⟨by unfold badKind; omega, htot2.2, w1.heap.size, ka, kc, rfl, by omega, hrow2.2, PN_mk (by omega) b9 hkc hrow2.1 (hk.keep hE fun x hx => PNL.off hs (by decide) (by decide) hk x hx), (b6.keep1 e11 (b6.ne q7 (by decide))), hE⟩)

end Go.Proofs.Ythhbnodnpajljaa
