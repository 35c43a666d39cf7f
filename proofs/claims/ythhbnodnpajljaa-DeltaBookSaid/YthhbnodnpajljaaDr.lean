/-
  The laws' head is true. No conditions.
-/
import Derived.Test.YthhbnodnpajljaaVxi
import Derived.Test.YthhbnodnpajljaaRows
import Derived.Test.YthhbnodnpajljaaDhd
import Derived.Test.YthhbnodnpajljaaDp
import Derived.Test.YthhbnodnpajljaaDe
set_option linter.unusedVariables false
set_option linter.unusedSimpArgs false
set_option maxRecDepth 100000
set_option maxHeartbeats 4000000
namespace Go.Proofs.Ythhbnodnpajljaa
open Go Go.RowKit Go.Vx


theorem fS_40 : flatS Try.prog 40 [some .i64, some .i64, some .i64, some .i64] = true := by kernel_rfl
theorem fS_88 : flatS Try.prog 88 [some .i64, some .i64, some .i64, some .i64, some .i64, some .i64, some .i64, some .i64, some .i64] = true := by kernel_rfl
theorem pf_15 : plainF Try.prog 15 = true := by kernel_rfl
theorem pf_19 : plainF Try.prog 19 = true := by kernel_rfl
theorem pf_24 : plainF Try.prog 24 = true := by kernel_rfl
theorem pf_41 : plainF Try.prog 41 = true := by kernel_rfl
theorem pf_42 : plainF Try.prog 42 = true := by kernel_rfl
theorem pf_45 : plainF Try.prog 45 = true := by kernel_rfl
theorem tA_40 : isAggT Try.prog 40 = some true := by kernel_rfl
theorem tA_88 : isAggT Try.prog 88 = some true := by kernel_rfl
theorem tE_57 : sliceT Try.prog 57 = some (5, 1, 1, (.int .u8 0)) := by kernel_rfl
theorem tP_59 : placesT Try.prog 59 = some #[(0, 1), (1, 1), (2, 1)] := by kernel_rfl
theorem tP_84 : placesT Try.prog 84 = some #[(0, 1), (1, 1), (2, 1), (3, 1)] := by kernel_rfl
theorem tS_40 : sizeT Try.prog 40 = some 4 := by kernel_rfl
theorem tS_88 : sizeT Try.prog 88 = some 9 := by kernel_rfl
theorem tU_34 : Try.prog.underlying 34 = some (.slice 40) := by kernel_rfl
theorem tU_36 : Try.prog.underlying 36 = some (.pointer 124) := by kernel_rfl
theorem tU_5 : Try.prog.underlying 5 = some (.int .u8) := by kernel_rfl
theorem tU_54 : Try.prog.underlying 54 = some (.slice 88) := by kernel_rfl

theorem make_good (s : Nat) (c kind n : Int) (kids : List T) (A : Option Addr) (cp : Nat) (w : World) (hs : Blk w s #[.int .i64 c] 140) (hc : 0 ≤ c ∧ c < 4611686018427387904) (hk : PNL (.pointer (some ⟨s, 0, none⟩)) w kids) (hA : RowA w A (kids.map T.ptr)) (hcp : (A = none → cp = 0) ∧ ∀ a, A = some a → a = ⟨a.block, a.off, none⟩) (hsz : ∀ t ∈ kids, sz t ≤ 4194304) (hn : kids.length ≤ 1048576)
    (hb : ¬ badKind kind n) (hz : 1 + szL kids ≤ 4194304) : Calls Try.prog 45 #[.pointer (some ⟨s, 0, none⟩), .int .i64 kind, .int .i64 n, .slice A kids.length cp] w (Ret fun v w' => ∃ b ka kc, v = .tuple #[.pointer (some ⟨b, 0, none⟩), .int .i64 0] ∧ w.heap.size ≤ b ∧ (∀ k ∈ ka, w.heap.size ≤ k) ∧ PN (.pointer (some ⟨s, 0, none⟩)) w' (.mk b ka kc (c + 1) kind n lf0 kids) ∧ Blk w' s #[.int .i64 (c + 1)] 140 ∧ Chg1 s w w') := by
  refine ret_mono (make_calls s c kind n kids A cp w hs hc hk hA hcp hsz hn) ?_
  rintro v w' (⟨h, _⟩ | ⟨_, h, _⟩ | ⟨_, _, b, ka, kc, h⟩)
  · exact absurd h hb
  · omega
  · exact ⟨b, ka, kc, h⟩

theorem head_calls  (w : World)  :
    Calls Try.prog 17 #[] w (Ret (fun v w' => v = .bool true ∧ Ext w w')) := by
  refine calls_xc (n := 94) (f := fun s_ => [].getD s_ undef) Try.func17 rfl rfl (by simp) (fun s_ => by simp) ?_
  refine xc_seq ?_
  refine xc_region ?_
  refine xl_op (P := Try.prog) (some 0) rfl rfl (ox_assign (v := (.bool false)) rfl ?_)
  refine xl_nil ?_
  refine xc_seq ?_
  refine xc_region ?_
  refine xl_op (P := Try.prog) (some 12) rfl rfl (ox_callE (al := []) pf_41 rfl (ret_mono (new_calls w) ?_))
  rintro _ w1 ⟨rfl, hs0, hz0, e1⟩
  have he1 := e1.size
  refine xl_op (P := Try.prog) (some 1) rfl rfl (ox_assign (v := (.pointer (some ⟨w.heap.size, 0, none⟩))) rfl ?_)
  refine xl_nil ?_
  refine xc_seq ?_
  refine xc_seq ?_
  refine xc_region ?_
  refine xl_op (P := Try.prog) (some 13) rfl rfl (ox_move (v := (.pointer (some ⟨w.heap.size, 0, none⟩))) rfl ?_)
  refine xl_op (P := Try.prog) (some 14) rfl rfl (ox_eqlNil (p := (some ⟨w.heap.size, 0, none⟩ : Option Addr)) (q := none) tU_27 rfl rfl (.inr rfl) ?_)
  refine xl_nil ?_
  refine xc_cond_f (congrArg Value.bool (decide_eq_false (by simp))) ?_
  refine xc_skip ?_
  refine xc_seq ?_
  refine xc_region ?_
  refine xl_op (P := Try.prog) (some 15) rfl rfl (ox_move (v := (.pointer (some ⟨w.heap.size, 0, none⟩))) rfl ?_)
  refine xl_op (P := Try.prog) (some 16) rfl rfl (ox_mkStruct (ps := [(2, (.int .i64 2))]) (cs := #[(.int .i64 0), (.int .i64 0), (.int .i64 2), (.int .i64 0)]) tZ_84 tP_84 rfl (by kernel_rfl) ?_)
  refine xl_op (P := Try.prog) (some 17) rfl rfl (ox_callE (al := [(.pointer (some ⟨w.heap.size, 0, none⟩)), (.agg #[(.int .i64 0), (.int .i64 0), (.int .i64 2), (.int .i64 0)])]) pf_42 rfl (ret_mono (storeLeaf_calls w.heap.size 0 ⟨0, 0, 2, 0⟩ w1 hs0 (by omega)) ?_))
  rintro _ w2 ⟨bx, hbx, rfl, hpx, hsx, e2⟩
  have he2 := e2.size
  replace hsx : Blk w2 w.heap.size #[.int .i64 1] 140 := hsx
  replace hpx : PN (.pointer (some ⟨w.heap.size, 0, none⟩)) w2 (hX bx) := hpx
  refine xl_op (P := Try.prog) (some 2) rfl rfl (ox_assign (v := (.pointer (some ⟨bx, 0, none⟩))) rfl ?_)
  refine xl_nil ?_
  refine xc_seq ?_
  refine xc_region ?_
  refine xl_op (P := Try.prog) (some 18) rfl rfl (ox_move (v := (.pointer (some ⟨w.heap.size, 0, none⟩))) rfl ?_)
  refine xl_op (P := Try.prog) (some 19) rfl rfl (ox_mkStruct (ps := [(2, (.int .i64 1))]) (cs := #[(.int .i64 0), (.int .i64 0), (.int .i64 1), (.int .i64 0)]) tZ_84 tP_84 rfl (by kernel_rfl) ?_)
  refine xl_op (P := Try.prog) (some 20) rfl rfl (ox_callE (al := [(.pointer (some ⟨w.heap.size, 0, none⟩)), (.agg #[(.int .i64 0), (.int .i64 0), (.int .i64 1), (.int .i64 0)])]) pf_42 rfl (ret_mono (storeLeaf_calls w.heap.size 1 ⟨0, 0, 1, 0⟩ w2 hsx (by omega)) ?_))
  rintro _ w3 ⟨by_, hby, rfl, hpy, hsy, e3⟩
  have he3 := e3.size
  replace hsy : Blk w3 w.heap.size #[.int .i64 2] 140 := hsy
  replace hpy : PN (.pointer (some ⟨w.heap.size, 0, none⟩)) w3 (hY by_) := hpy
  refine xl_op (P := Try.prog) (some 3) rfl rfl (ox_assign (v := (.pointer (some ⟨by_, 0, none⟩))) rfl ?_)
  refine xl_nil ?_
  refine xc_seq ?_
  refine xc_seq ?_
  refine xc_region ?_
  refine xl_op (P := Try.prog) (some 21) rfl rfl (ox_move (v := (.pointer (some ⟨bx, 0, none⟩))) rfl ?_)
  refine xl_op (P := Try.prog) (some 22) rfl rfl (ox_eqlNil (p := (some ⟨bx, 0, none⟩ : Option Addr)) (q := none) tU_36 rfl rfl (.inr rfl) ?_)
  refine xl_op (P := Try.prog) (some 23) rfl rfl (ox_move (v := (.bool (decide ((some ⟨bx, 0, none⟩ : Option Addr) = none)))) rfl ?_)
  refine xl_opg (P := Try.prog) (some 24) (j := 2) (b := false) rfl rfl (congrArg some (decide_eq_false (by simp))) (ox_move (v := (.pointer (some ⟨by_, 0, none⟩))) rfl ?_)
  refine xl_opg (P := Try.prog) (some 25) (j := 2) (b := false) rfl rfl (congrArg some (decide_eq_false (by simp))) (ox_eqlNil (p := (some ⟨by_, 0, none⟩ : Option Addr)) (q := none) tU_36 rfl rfl (.inr rfl) ?_)
  refine xl_op (P := Try.prog) (some 26) rfl rfl (ox_pick_f (v := (.bool (decide ((some ⟨by_, 0, none⟩ : Option Addr) = none)))) (congrArg Value.bool (decide_eq_false (by simp))) rfl ?_)
  refine xl_nil ?_
  refine xc_cond_f (congrArg Value.bool (decide_eq_false (by simp))) ?_
  refine xc_skip ?_
  refine xc_seq ?_
  refine xc_region ?_
  refine xl_op (P := Try.prog) (some 28) rfl rfl (ox_move (v := (.pointer (some ⟨w.heap.size, 0, none⟩))) rfl ?_)
  refine xl_op (P := Try.prog) (some 29) rfl rfl (ox_move (v := (.pointer (some ⟨bx, 0, none⟩))) rfl ?_)
  refine xl_op (P := Try.prog) (some 30) rfl rfl (ox_mkSlice (ps := [(0, (.pointer (some ⟨bx, 0, none⟩)))]) (zs := #[(.pointer none)]) (cs := #[(.pointer (some ⟨bx, 0, none⟩))]) tE_28 rfl (by decide) (by kernel_rfl) (by kernel_rfl) ?_)
  intro w4 e4 z1 b1
  replace b1 : Blk w4 w3.heap.size #[(.pointer (some ⟨bx, 0, none⟩))] 36 := b1
  have q1 := (hpx.keep e3 (fun b hb hh => PN.off hsx (by decide) (by decide) hpx b hb hh))
  refine xl_op (P := Try.prog) (some 31) rfl rfl (ox_callE (al := [(.pointer (some ⟨w.heap.size, 0, none⟩)), (.int .i64 3), (.int .i64 0), (.slice (some ⟨w3.heap.size, 0, none⟩) 1 1)]) pf_45 rfl (ret_mono (make_good w.heap.size 2 3 0 [hX bx] (some ⟨w3.heap.size, 0, none⟩) 1 w4 (hsy.ext e4) (by omega) ⟨(q1.ext e4), trivial⟩ ⟨fun _ => rfl, by simpa [T.ptr, leafT, T.b] using b1.all⟩ (by simp) (by simp [leafT, sz, szL]) (by simp) (by decide) (by simp [leafT, sz, szL])) ?_))
  rintro _ w5 ⟨ba, ka, ca, rfl, hba, hka, hpa, hsa, e5⟩
  have he5 := e5.size
  replace hsa : Blk w5 w.heap.size #[.int .i64 3] 140 := hsa
  replace hpa : PN (.pointer (some ⟨w.heap.size, 0, none⟩)) w5 (hA bx ba ka ca) := hpa
  refine xl_op (P := Try.prog) (some 27) rfl rfl (ox_move (v := (.tuple #[(.pointer (some ⟨ba, 0, none⟩)), (.int .i64 0)])) rfl ?_)
  refine xl_op (P := Try.prog) (some 32) rfl rfl (ox_extract (vs := #[(.pointer (some ⟨ba, 0, none⟩)), (.int .i64 0)]) (v := (.pointer (some ⟨ba, 0, none⟩))) rfl rfl ?_)
  refine xl_op (P := Try.prog) (some 33) rfl rfl (ox_extract (vs := #[(.pointer (some ⟨ba, 0, none⟩)), (.int .i64 0)]) (v := (.int .i64 0)) rfl rfl ?_)
  refine xl_op (P := Try.prog) (some 4) rfl rfl (ox_assign (v := (.pointer (some ⟨ba, 0, none⟩))) rfl ?_)
  refine xl_op (P := Try.prog) (some 5) rfl rfl (ox_assign (v := (.int .i64 0)) rfl ?_)
  refine xl_nil ?_
  refine xc_seq ?_
  refine xc_region ?_
  refine xl_op (P := Try.prog) (some 35) rfl rfl (ox_move (v := (.pointer (some ⟨w.heap.size, 0, none⟩))) rfl ?_)
  refine xl_op (P := Try.prog) (some 36) rfl rfl (ox_move (v := (.pointer (some ⟨by_, 0, none⟩))) rfl ?_)
  refine xl_op (P := Try.prog) (some 37) rfl rfl (ox_move (v := (.pointer (some ⟨bx, 0, none⟩))) rfl ?_)
  refine xl_op (P := Try.prog) (some 38) rfl rfl (ox_mkSlice (ps := [(0, (.pointer (some ⟨by_, 0, none⟩))), (1, (.pointer (some ⟨bx, 0, none⟩)))]) (zs := #[(.pointer none), (.pointer none)]) (cs := #[(.pointer (some ⟨by_, 0, none⟩)), (.pointer (some ⟨bx, 0, none⟩))]) tE_28 rfl (by decide) (by kernel_rfl) (by kernel_rfl) ?_)
  intro w6 e6 z2 b2
  replace b2 : Blk w6 w5.heap.size #[(.pointer (some ⟨by_, 0, none⟩)), (.pointer (some ⟨bx, 0, none⟩))] 36 := b2
  have q2 := ((q1.ext e4).keep e5 (fun b hb hh => PN.off (hsy.ext e4) (by decide) (by decide) (q1.ext e4) b hb hh))
  have q3 := ((hpy.ext e4).keep e5 (fun b hb hh => PN.off (hsy.ext e4) (by decide) (by decide) (hpy.ext e4) b hb hh))
  refine xl_op (P := Try.prog) (some 39) rfl rfl (ox_callE (al := [(.pointer (some ⟨w.heap.size, 0, none⟩)), (.int .i64 3), (.int .i64 0), (.slice (some ⟨w5.heap.size, 0, none⟩) 2 2)]) pf_45 rfl (ret_mono (make_good w.heap.size 3 3 0 [hY by_, hX bx] (some ⟨w5.heap.size, 0, none⟩) 2 w6 (hsa.ext e6) (by omega) ⟨(q3.ext e6), (q2.ext e6), trivial⟩ ⟨fun _ => rfl, by simpa [T.ptr, leafT, T.b] using b2.all⟩ (by simp) (by simp [leafT, sz, szL]) (by simp) (by decide) (by simp [leafT, sz, szL])) ?_))
  rintro _ w7 ⟨bb, kb, cb, rfl, hbb, hkb, hpb, hsb, e7⟩
  have he7 := e7.size
  replace hsb : Blk w7 w.heap.size #[.int .i64 4] 140 := hsb
  replace hpb : PN (.pointer (some ⟨w.heap.size, 0, none⟩)) w7 (hB bx by_ bb kb cb) := hpb
  refine xl_op (P := Try.prog) (some 34) rfl rfl (ox_move (v := (.tuple #[(.pointer (some ⟨bb, 0, none⟩)), (.int .i64 0)])) rfl ?_)
  refine xl_op (P := Try.prog) (some 40) rfl rfl (ox_extract (vs := #[(.pointer (some ⟨bb, 0, none⟩)), (.int .i64 0)]) (v := (.pointer (some ⟨bb, 0, none⟩))) rfl rfl ?_)
  refine xl_op (P := Try.prog) (some 41) rfl rfl (ox_extract (vs := #[(.pointer (some ⟨bb, 0, none⟩)), (.int .i64 0)]) (v := (.int .i64 0)) rfl rfl ?_)
  refine xl_op (P := Try.prog) (some 6) rfl rfl (ox_assign (v := (.pointer (some ⟨bb, 0, none⟩))) rfl ?_)
  refine xl_op (P := Try.prog) (some 7) rfl rfl (ox_assign (v := (.int .i64 0)) rfl ?_)
  refine xl_nil ?_
  refine xc_seq ?_
  refine xc_seq ?_
  refine xc_region ?_
  refine xl_op (P := Try.prog) (some 42) rfl rfl (ox_move (v := (.pointer (some ⟨ba, 0, none⟩))) rfl ?_)
  refine xl_op (P := Try.prog) (some 43) rfl rfl (ox_eqlNil (p := (some ⟨ba, 0, none⟩ : Option Addr)) (q := none) tU_36 rfl rfl (.inr rfl) ?_)
  refine xl_op (P := Try.prog) (some 44) rfl rfl (ox_move (v := (.bool (decide ((some ⟨ba, 0, none⟩ : Option Addr) = none)))) rfl ?_)
  refine xl_opg (P := Try.prog) (some 45) (j := 2) (b := false) rfl rfl (congrArg some (decide_eq_false (by simp))) (ox_move (v := (.pointer (some ⟨bb, 0, none⟩))) rfl ?_)
  refine xl_opg (P := Try.prog) (some 46) (j := 2) (b := false) rfl rfl (congrArg some (decide_eq_false (by simp))) (ox_eqlNil (p := (some ⟨bb, 0, none⟩ : Option Addr)) (q := none) tU_36 rfl rfl (.inr rfl) ?_)
  refine xl_op (P := Try.prog) (some 47) rfl rfl (ox_pick_f (v := (.bool (decide ((some ⟨bb, 0, none⟩ : Option Addr) = none)))) (congrArg Value.bool (decide_eq_false (by simp))) rfl ?_)
  refine xl_nil ?_
  refine xc_cond_f (congrArg Value.bool (decide_eq_false (by simp))) ?_
  refine xc_skip ?_
  refine xc_seq ?_
  refine xc_region ?_
  refine xl_op (P := Try.prog) (some 48) rfl rfl (ox_move (v := (.pointer (some ⟨ba, 0, none⟩))) rfl ?_)
  refine xl_op (P := Try.prog) (some 49) rfl rfl (ox_move (v := (.pointer (some ⟨bb, 0, none⟩))) rfl ?_)
  have q4 := ((hpa.ext e6).keep e7 (fun b hb hh => PN.off (hsa.ext e6) (by decide) (by decide) (hpa.ext e6) b hb hh))
  refine xl_op (P := Try.prog) (some 50) rfl rfl (ox_callE (al := [(.pointer (some ⟨ba, 0, none⟩)), (.pointer (some ⟨bb, 0, none⟩))]) pf_15 rfl (ret_mono ((by have h := dLeaves_calls (.pointer (some ⟨w.heap.size, 0, none⟩)) (hA bx ba ka ca) (hB bx by_ bb kb cb) w7 q4 (by simp [WF, WFL, leafT]) (by simp [leafT, sz, szL]) hpb (by simp [WF, WFL, leafT]) (by simp [leafT, sz, szL]); rw [head_hunks] at h; exact h)) ?_))
  rintro _ w8 ⟨Ah, ch, rfl, hoh, hnh, e8⟩
  have he8 := e8.size
  obtain ⟨gh, caph, heqh, _⟩ := hoh.some_of (by decide)
  simp only [Value.slice.injEq, true_and] at heqh
  obtain ⟨rfl, rfl⟩ := heqh
  refine xl_op (P := Try.prog) (some 8) rfl rfl (ox_assign (v := (.slice (some ⟨gh, 0, none⟩) 1 ch)) rfl ?_)
  refine xl_nil ?_
  refine xc_seq ?_
  refine xc_region ?_
  refine xl_op (P := Try.prog) (some 51) rfl rfl (ox_move (v := (.pointer (some ⟨ba, 0, none⟩))) rfl ?_)
  refine xl_op (P := Try.prog) (some 52) rfl rfl (ox_move (v := (.pointer (some ⟨bb, 0, none⟩))) rfl ?_)
  refine xl_op (P := Try.prog) (some 53) rfl rfl (ox_callE (al := [(.pointer (some ⟨ba, 0, none⟩)), (.pointer (some ⟨bb, 0, none⟩))]) pf_24 rfl (ret_mono ((by have h := script_calls (.pointer (some ⟨w.heap.size, 0, none⟩)) (hA bx ba ka ca) (hB bx by_ bb kb cb) w8 (q4.ext e8) (by simp [WF, WFL, leafT]) (by simp [leafT, sz, szL]) (hpb.ext e8) (by simp [WF, WFL, leafT]) (by simp [leafT, sz, szL]); rw [head_script] at h; exact h)) ?_))
  rintro _ w9 ⟨As, cs, rfl, hos, hns, e9⟩
  have he9 := e9.size
  obtain ⟨gs, caps, heqs, _⟩ := hos.some_of (by decide)
  simp only [Value.slice.injEq, true_and] at heqs
  obtain ⟨rfl, rfl⟩ := heqs
  refine xl_op (P := Try.prog) (some 9) rfl rfl (ox_assign (v := (.slice (some ⟨gs, 0, none⟩) 3 cs)) rfl ?_)
  refine xl_nil ?_
  refine xc_seq ?_
  refine xc_region ?_
  refine xl_op (P := Try.prog) (some 55) rfl rfl (ox_mkSlice (ps := [(0, (.int .u8 113))]) (zs := #[(.int .u8 0)]) (cs := #[(.int .u8 113)]) tE_57 rfl (by decide) (by kernel_rfl) (by kernel_rfl) ?_)
  intro w10 e10 z3 b3
  replace b3 : Blk w10 w9.heap.size #[(.int .u8 113)] 5 := b3
  refine xl_op (P := Try.prog) (some 56) rfl rfl (ox_convB (a := ⟨w9.heap.size, 0, none⟩) tU_57 tU_5 rfl ⟨_, _, b3⟩ ?_)
  intro w11 e11 z4
  replace e11 : Chg1 w9.heap.size w10 w11 := e11
  refine xl_op (P := Try.prog) (some 57) rfl rfl (ox_mkStruct (ps := [(0, (.int .i64 0)), (2, (.slice (some ⟨w9.heap.size, 0, none⟩) 1 1))]) (cs := #[(.int .i64 0), (.int .i64 0), (.slice (some ⟨w9.heap.size, 0, none⟩) 1 1)]) tZ_59 tP_59 rfl (by kernel_rfl) ?_)
  refine xl_op (P := Try.prog) (some 58) rfl rfl (ox_mkSlice (ps := [(0, (.agg #[(.int .i64 0), (.int .i64 0), (.slice (some ⟨w9.heap.size, 0, none⟩) 1 1)]))]) (zs := #[(.int .i64 0), (.int .i64 0), (.slice none 0 0)]) (cs := #[(.int .i64 0), (.int .i64 0), (.slice (some ⟨w9.heap.size, 0, none⟩) 1 1)]) tE_43 rfl (by decide) (by kernel_rfl) (by kernel_rfl) ?_)
  intro w12 e12 z5 b4
  replace b4 : Blk w12 w11.heap.size #[(.int .i64 0), (.int .i64 0), (.slice (some ⟨w9.heap.size, 0, none⟩) 1 1)] 59 := b4
  refine xl_op (P := Try.prog) (some 59) rfl rfl (ox_callE (al := [(.int .i64 1), (.int .i64 0), (.slice (some ⟨w11.heap.size, 0, none⟩) 1 1)]) pf_19 rfl (ret_mono ((by have h := move_calls 1 0 [⟨0, 0, (some ⟨w9.heap.size, 0, none⟩), 1, 1⟩] (some ⟨w11.heap.size, 0, none⟩) 1 w12 ⟨fun _ => rfl, by simpa [edC, Ed.cs] using b4.all⟩; exact h)) ?_))
  rintro _ w13 ⟨rfl, e13⟩
  have he13 := e13.size
  refine xl_op (P := Try.prog) (some 54) rfl rfl (ox_move (v := (.tuple #[(.int .i64 2), (.int .i64 0)])) rfl ?_)
  refine xl_op (P := Try.prog) (some 60) rfl rfl (ox_extract (vs := #[(.int .i64 2), (.int .i64 0)]) (v := (.int .i64 2)) rfl rfl ?_)
  refine xl_op (P := Try.prog) (some 61) rfl rfl (ox_extract (vs := #[(.int .i64 2), (.int .i64 0)]) (v := (.int .i64 0)) rfl rfl ?_)
  refine xl_op (P := Try.prog) (some 10) rfl rfl (ox_assign (v := (.int .i64 2)) rfl ?_)
  refine xl_op (P := Try.prog) (some 11) rfl rfl (ox_assign (v := (.int .i64 0)) rfl ?_)
  refine xl_nil ?_
  refine xc_seq ?_
  refine xc_regionE [] (fun W_ => Chg (fun _ => False) w13 W_) hmix ?_
  intro w14 e14 z6
  have hS1 : Chg (fun _ => False) w13 w14 := Ext.to e14
  refine xd_pure 0 (some 62) rfl rfl (by kernel_rfl) (v := (.slice (some ⟨gh, 0, none⟩) 1 ch)) (.inl ⟨rfl, fun W_ hW_ => ox_move (v := (.slice (some ⟨gh, 0, none⟩) 1 ch)) rfl ⟨rfl, rfl⟩⟩) ?_
  refine xd_pure 1 (some 63) rfl rfl (by kernel_rfl) (v := (.int .i64 1)) (.inl ⟨rfl, fun W_ hW_ => ox_len (A := (some ⟨gh, 0, none⟩)) (n := 1) (cp := ch) rfl tU_34 rfl ⟨rfl, rfl⟩⟩) ?_
  refine xd_pure 2 (some 64) rfl rfl (by kernel_rfl) (v := (.bool (decide ((1 : Int) = 1)))) (.inl ⟨rfl, fun W_ hW_ => ox_eql (k := .i64) (a := 1) (b := 1) rfl rfl ⟨rfl, rfl⟩⟩) ?_
  refine xd_pure 3 (some 65) rfl rfl (by kernel_rfl) (v := (.bool (decide ((1 : Int) = 1)))) (.inl ⟨rfl, fun W_ hW_ => ox_move (v := (.bool (decide ((1 : Int) = 1)))) rfl ⟨rfl, rfl⟩⟩) ?_
  refine xd_pure 4 (some 66) rfl rfl (by kernel_rfl) (v := (.slice (some ⟨gh, 0, none⟩) 1 ch)) (.inl ⟨(wanted_of (j := 3) (b := true) rfl (congrArg some (by decide : decide ((1 : Int) = 1) = true))), fun W_ hW_ => ox_move (v := (.slice (some ⟨gh, 0, none⟩) 1 ch)) rfl ⟨rfl, rfl⟩⟩) ?_
  refine xd_pure 5 (some 67) rfl rfl (by kernel_rfl) (v := (.pointer (some ⟨gh, 0 + (0 : Int).toNat * 4, none⟩))) (.inl ⟨(wanted_of (j := 3) (b := true) rfl (congrArg some (by decide : decide ((1 : Int) = 1) = true))), fun W_ hW_ => ox_indexAddr (b := gh) (o := 0) (i := 0) tE_34 rfl rfl (by omega) (by omega) ⟨rfl, rfl⟩⟩) ?_
  have q5 := (((hoh.ext e9).ext e10).keep1 e11 (fun k hk => ((hoh.ext e9).ext e10).ne_blk b3 (by decide) k hk))
  refine xd_take 6 (some 68) rfl rfl (by kernel_rfl) (v := (.agg #[(.int .i64 0), (.int .i64 0), (.int .i64 0), (.int .i64 1)])) (.inl ⟨(wanted_of (j := 3) (b := true) rfl (congrArg some (by decide : decide ((1 : Int) = 1) = true))), fun W_ hW_ => ox_loadN (vs := [(.int .i64 0), (.int .i64 0), (.int .i64 0), (.int .i64 1)]) tA_40 tS_40 rfl rfl ((((q5.ext e12).ext e13).ext hW_).cells (o := 0) (vs := [(.int .i64 0), (.int .i64 0), (.int .i64 0), (.int .i64 1)]) (by intro j v hj; rcases j with _ | _ | _ | _ | _ | _ | _ | _ | _ | j <;> first | exact hj | (simp at hj))) ⟨rfl, rfl⟩⟩) hS1 ?_
  refine xd_pure 7 (some 69) rfl rfl (by kernel_rfl) (v := (.agg #[(.int .i64 0), (.int .i64 0), (.int .i64 0), (.int .i64 1)])) (.inl ⟨(wanted_of (j := 3) (b := true) rfl (congrArg some (by decide : decide ((1 : Int) = 1) = true))), fun W_ hW_ => ox_mkStruct (ps := [(3, (.int .i64 1))]) (cs := #[(.int .i64 0), (.int .i64 0), (.int .i64 0), (.int .i64 1)]) tZ_40 tP_40 rfl (by kernel_rfl) ⟨rfl, rfl⟩⟩) ?_
  refine xd_pure 8 (some 70) rfl rfl (by kernel_rfl) (v := (.bool (decide (((0 : Int) = 0 ∧ (0 : Int) = 0 ∧ (0 : Int) = 0 ∧ (1 : Int) = 1))))) (.inl ⟨(wanted_of (j := 3) (b := true) rfl (congrArg some (by decide : decide ((1 : Int) = 1) = true))), fun W_ hW_ => ox_eqlF (xs := [(.int .i64 0), (.int .i64 0), (.int .i64 0), (.int .i64 1)]) (ys := [(.int .i64 0), (.int .i64 0), (.int .i64 0), (.int .i64 1)]) (p := ((0 : Int) = 0 ∧ (0 : Int) = 0 ∧ (0 : Int) = 0 ∧ (1 : Int) = 1)) fS_40 rfl rfl rfl rfl (by simp) ⟨rfl, rfl⟩⟩) ?_
  refine xd_pure 9 (some 71) rfl rfl (by kernel_rfl) (v := (.bool (decide (((0 : Int) = 0 ∧ (0 : Int) = 0 ∧ (0 : Int) = 0 ∧ (1 : Int) = 1))))) (.inl ⟨rfl, fun W_ hW_ => ox_pick_t (v := (.bool (decide (((0 : Int) = 0 ∧ (0 : Int) = 0 ∧ (0 : Int) = 0 ∧ (1 : Int) = 1))))) (congrArg Value.bool (by decide : decide ((1 : Int) = 1) = true)) rfl ⟨rfl, rfl⟩⟩) ?_
  refine xd_pure 10 (some 72) rfl rfl (by kernel_rfl) (v := (.bool (decide (((0 : Int) = 0 ∧ (0 : Int) = 0 ∧ (0 : Int) = 0 ∧ (1 : Int) = 1))))) (.inl ⟨rfl, fun W_ hW_ => ox_move (v := (.bool (decide (((0 : Int) = 0 ∧ (0 : Int) = 0 ∧ (0 : Int) = 0 ∧ (1 : Int) = 1))))) rfl ⟨rfl, rfl⟩⟩) ?_
  refine xd_pure 11 (some 73) rfl rfl (by kernel_rfl) (v := (.slice (some ⟨gs, 0, none⟩) 3 cs)) (.inl ⟨(wanted_of (j := 10) (b := true) rfl (congrArg some (by decide : decide (((0 : Int) = 0 ∧ (0 : Int) = 0 ∧ (0 : Int) = 0 ∧ (1 : Int) = 1)) = true))), fun W_ hW_ => ox_move (v := (.slice (some ⟨gs, 0, none⟩) 3 cs)) rfl ⟨rfl, rfl⟩⟩) ?_
  refine xd_pure 12 (some 74) rfl rfl (by kernel_rfl) (v := (.int .i64 3)) (.inl ⟨(wanted_of (j := 10) (b := true) rfl (congrArg some (by decide : decide (((0 : Int) = 0 ∧ (0 : Int) = 0 ∧ (0 : Int) = 0 ∧ (1 : Int) = 1)) = true))), fun W_ hW_ => ox_len (A := (some ⟨gs, 0, none⟩)) (n := 3) (cp := cs) rfl tU_54 rfl ⟨rfl, rfl⟩⟩) ?_
  refine xd_pure 13 (some 75) rfl rfl (by kernel_rfl) (v := (.bool (decide ((3 : Int) = 3)))) (.inl ⟨(wanted_of (j := 10) (b := true) rfl (congrArg some (by decide : decide (((0 : Int) = 0 ∧ (0 : Int) = 0 ∧ (0 : Int) = 0 ∧ (1 : Int) = 1)) = true))), fun W_ hW_ => ox_eql (k := .i64) (a := 3) (b := 3) rfl rfl ⟨rfl, rfl⟩⟩) ?_
  refine xd_pure 14 (some 76) rfl rfl (by kernel_rfl) (v := (.bool (decide ((3 : Int) = 3)))) (.inl ⟨rfl, fun W_ hW_ => ox_pick_t (v := (.bool (decide ((3 : Int) = 3)))) (congrArg Value.bool (by decide : decide (((0 : Int) = 0 ∧ (0 : Int) = 0 ∧ (0 : Int) = 0 ∧ (1 : Int) = 1)) = true)) rfl ⟨rfl, rfl⟩⟩) ?_
  refine xd_pure 15 (some 77) rfl rfl (by kernel_rfl) (v := (.bool (decide ((3 : Int) = 3)))) (.inl ⟨rfl, fun W_ hW_ => ox_move (v := (.bool (decide ((3 : Int) = 3)))) rfl ⟨rfl, rfl⟩⟩) ?_
  refine xd_pure 16 (some 78) rfl rfl (by kernel_rfl) (v := (.slice (some ⟨gs, 0, none⟩) 3 cs)) (.inl ⟨(wanted_of (j := 15) (b := true) rfl (congrArg some (by decide : decide ((3 : Int) = 3) = true))), fun W_ hW_ => ox_move (v := (.slice (some ⟨gs, 0, none⟩) 3 cs)) rfl ⟨rfl, rfl⟩⟩) ?_
  refine xd_pure 17 (some 79) rfl rfl (by kernel_rfl) (v := (.pointer (some ⟨gs, 0 + (1 : Int).toNat * 9, none⟩))) (.inl ⟨(wanted_of (j := 15) (b := true) rfl (congrArg some (by decide : decide ((3 : Int) = 3) = true))), fun W_ hW_ => ox_indexAddr (b := gs) (o := 0) (i := 1) tE_54 rfl rfl (by omega) (by omega) ⟨rfl, rfl⟩⟩) ?_
  have q6 := ((hos.ext e10).keep1 e11 (fun k hk => (hos.ext e10).ne_blk b3 (by decide) k hk))
  refine xd_take 18 (some 80) rfl rfl (by kernel_rfl) (v := (.agg #[(.int .i64 1), (.int .i64 1), (.int .i64 0), (.int .i64 0), (.int .i64 0), (.int .i64 0), (.int .i64 0), (.int .i64 0), (.int .i64 0)])) (.inl ⟨(wanted_of (j := 15) (b := true) rfl (congrArg some (by decide : decide ((3 : Int) = 3) = true))), fun W_ hW_ => ox_loadN (vs := [(.int .i64 1), (.int .i64 1), (.int .i64 0), (.int .i64 0), (.int .i64 0), (.int .i64 0), (.int .i64 0), (.int .i64 0), (.int .i64 0)]) tA_88 tS_88 rfl rfl ((((q6.ext e12).ext e13).ext hW_).cells (o := 9) (vs := [(.int .i64 1), (.int .i64 1), (.int .i64 0), (.int .i64 0), (.int .i64 0), (.int .i64 0), (.int .i64 0), (.int .i64 0), (.int .i64 0)]) (by intro j v hj; rcases j with _ | _ | _ | _ | _ | _ | _ | _ | _ | j <;> first | exact hj | (simp at hj))) ⟨rfl, rfl⟩⟩) hS1 ?_
  refine xd_pure 19 (some 81) rfl rfl (by kernel_rfl) (v := (.pointer (some ⟨bx, 0, none⟩))) (.inl ⟨(wanted_of (j := 15) (b := true) rfl (congrArg some (by decide : decide ((3 : Int) = 3) = true))), fun W_ hW_ => ox_move (v := (.pointer (some ⟨bx, 0, none⟩))) rfl ⟨rfl, rfl⟩⟩) ?_
  have q7 := ((q2.ext e6).keep e7 (fun b hb hh => PN.off (hsa.ext e6) (by decide) (by decide) (q2.ext e6) b hb hh))
  have q8 := ((((q7.ext e8).ext e9).ext e10).keep e11 (fun b hb hh => PN.off b3 (by decide) (by decide) (((q7.ext e8).ext e9).ext e10) b hb hh))
  refine xd_take 20 (some 82) rfl rfl (by kernel_rfl) (v := (.int .i64 1)) (.inl ⟨(wanted_of (j := 15) (b := true) rfl (congrArg some (by decide : decide ((3 : Int) = 3) = true))), fun W_ hW_ => ox_callE (al := [(.pointer (some ⟨bx, 0, none⟩))]) pf_40 rfl (ret_mono (number_calls _ (hX bx) _ (((q8.ext e12).ext e13).ext hW_)) (by rintro _ _ ⟨rfl, rfl⟩; exact ⟨rfl, rfl⟩))⟩) hS1 ?_
  refine xd_pure 21 (some 83) rfl rfl (by kernel_rfl) (v := (.agg #[(.int .i64 1), (.int .i64 1), (.int .i64 0), (.int .i64 0), (.int .i64 0), (.int .i64 0), (.int .i64 0), (.int .i64 0), (.int .i64 0)])) (.inl ⟨(wanted_of (j := 15) (b := true) rfl (congrArg some (by decide : decide ((3 : Int) = 3) = true))), fun W_ hW_ => ox_mkStruct (ps := [(0, (.int .i64 1)), (1, (.int .i64 1))]) (cs := #[(.int .i64 1), (.int .i64 1), (.int .i64 0), (.int .i64 0), (.int .i64 0), (.int .i64 0), (.int .i64 0), (.int .i64 0), (.int .i64 0)]) tZ_88 tP_88 rfl (by kernel_rfl) ⟨rfl, rfl⟩⟩) ?_
  refine xd_pure 22 (some 84) rfl rfl (by kernel_rfl) (v := (.bool (decide (((1 : Int) = 1 ∧ (1 : Int) = 1 ∧ (0 : Int) = 0 ∧ (0 : Int) = 0 ∧ (0 : Int) = 0 ∧ (0 : Int) = 0 ∧ (0 : Int) = 0 ∧ (0 : Int) = 0 ∧ (0 : Int) = 0))))) (.inl ⟨(wanted_of (j := 15) (b := true) rfl (congrArg some (by decide : decide ((3 : Int) = 3) = true))), fun W_ hW_ => ox_eqlF (xs := [(.int .i64 1), (.int .i64 1), (.int .i64 0), (.int .i64 0), (.int .i64 0), (.int .i64 0), (.int .i64 0), (.int .i64 0), (.int .i64 0)]) (ys := [(.int .i64 1), (.int .i64 1), (.int .i64 0), (.int .i64 0), (.int .i64 0), (.int .i64 0), (.int .i64 0), (.int .i64 0), (.int .i64 0)]) (p := ((1 : Int) = 1 ∧ (1 : Int) = 1 ∧ (0 : Int) = 0 ∧ (0 : Int) = 0 ∧ (0 : Int) = 0 ∧ (0 : Int) = 0 ∧ (0 : Int) = 0 ∧ (0 : Int) = 0 ∧ (0 : Int) = 0)) fS_88 rfl rfl rfl rfl (by simp) ⟨rfl, rfl⟩⟩) ?_
  refine xd_pure 23 (some 85) rfl rfl (by kernel_rfl) (v := (.bool (decide (((1 : Int) = 1 ∧ (1 : Int) = 1 ∧ (0 : Int) = 0 ∧ (0 : Int) = 0 ∧ (0 : Int) = 0 ∧ (0 : Int) = 0 ∧ (0 : Int) = 0 ∧ (0 : Int) = 0 ∧ (0 : Int) = 0))))) (.inl ⟨rfl, fun W_ hW_ => ox_pick_t (v := (.bool (decide (((1 : Int) = 1 ∧ (1 : Int) = 1 ∧ (0 : Int) = 0 ∧ (0 : Int) = 0 ∧ (0 : Int) = 0 ∧ (0 : Int) = 0 ∧ (0 : Int) = 0 ∧ (0 : Int) = 0 ∧ (0 : Int) = 0))))) (congrArg Value.bool (by decide : decide ((3 : Int) = 3) = true)) rfl ⟨rfl, rfl⟩⟩) ?_
  refine xd_pure 24 (some 86) rfl rfl (by kernel_rfl) (v := (.bool (decide (((1 : Int) = 1 ∧ (1 : Int) = 1 ∧ (0 : Int) = 0 ∧ (0 : Int) = 0 ∧ (0 : Int) = 0 ∧ (0 : Int) = 0 ∧ (0 : Int) = 0 ∧ (0 : Int) = 0 ∧ (0 : Int) = 0))))) (.inl ⟨rfl, fun W_ hW_ => ox_move (v := (.bool (decide (((1 : Int) = 1 ∧ (1 : Int) = 1 ∧ (0 : Int) = 0 ∧ (0 : Int) = 0 ∧ (0 : Int) = 0 ∧ (0 : Int) = 0 ∧ (0 : Int) = 0 ∧ (0 : Int) = 0 ∧ (0 : Int) = 0))))) rfl ⟨rfl, rfl⟩⟩) ?_
  refine xd_pure 25 (some 87) rfl rfl (by kernel_rfl) (v := (.int .i64 2)) (.inl ⟨(wanted_of (j := 24) (b := true) rfl (congrArg some (by decide : decide (((1 : Int) = 1 ∧ (1 : Int) = 1 ∧ (0 : Int) = 0 ∧ (0 : Int) = 0 ∧ (0 : Int) = 0 ∧ (0 : Int) = 0 ∧ (0 : Int) = 0 ∧ (0 : Int) = 0 ∧ (0 : Int) = 0)) = true))), fun W_ hW_ => ox_move (v := (.int .i64 2)) rfl ⟨rfl, rfl⟩⟩) ?_
  refine xd_pure 26 (some 88) rfl rfl (by kernel_rfl) (v := (.bool (decide ((2 : Int) = 2)))) (.inl ⟨(wanted_of (j := 24) (b := true) rfl (congrArg some (by decide : decide (((1 : Int) = 1 ∧ (1 : Int) = 1 ∧ (0 : Int) = 0 ∧ (0 : Int) = 0 ∧ (0 : Int) = 0 ∧ (0 : Int) = 0 ∧ (0 : Int) = 0 ∧ (0 : Int) = 0 ∧ (0 : Int) = 0)) = true))), fun W_ hW_ => ox_eql (k := .i64) (a := 2) (b := 2) rfl rfl ⟨rfl, rfl⟩⟩) ?_
  refine xd_pure 27 (some 89) rfl rfl (by kernel_rfl) (v := (.bool (decide ((2 : Int) = 2)))) (.inl ⟨rfl, fun W_ hW_ => ox_pick_t (v := (.bool (decide ((2 : Int) = 2)))) (congrArg Value.bool (by decide : decide (((1 : Int) = 1 ∧ (1 : Int) = 1 ∧ (0 : Int) = 0 ∧ (0 : Int) = 0 ∧ (0 : Int) = 0 ∧ (0 : Int) = 0 ∧ (0 : Int) = 0 ∧ (0 : Int) = 0 ∧ (0 : Int) = 0)) = true)) rfl ⟨rfl, rfl⟩⟩) ?_
  refine xd_pure 28 (some 90) rfl rfl (by kernel_rfl) (v := (.bool (decide ((2 : Int) = 2)))) (.inl ⟨rfl, fun W_ hW_ => ox_move (v := (.bool (decide ((2 : Int) = 2)))) rfl ⟨rfl, rfl⟩⟩) ?_
  refine xd_pure 29 (some 91) rfl rfl (by kernel_rfl) (v := (.int .i64 0)) (.inl ⟨(wanted_of (j := 28) (b := true) rfl (congrArg some (by decide : decide ((2 : Int) = 2) = true))), fun W_ hW_ => ox_move (v := (.int .i64 0)) rfl ⟨rfl, rfl⟩⟩) ?_
  refine xd_pure 30 (some 92) rfl rfl (by kernel_rfl) (v := (.bool (decide ((0 : Int) = 0)))) (.inl ⟨(wanted_of (j := 28) (b := true) rfl (congrArg some (by decide : decide ((2 : Int) = 2) = true))), fun W_ hW_ => ox_eql (k := .i64) (a := 0) (b := 0) rfl rfl ⟨rfl, rfl⟩⟩) ?_
  refine xd_pure 31 (some 93) rfl rfl (by kernel_rfl) (v := (.bool (decide ((0 : Int) = 0)))) (.inl ⟨rfl, fun W_ hW_ => ox_pick_t (v := (.bool (decide ((0 : Int) = 0)))) (congrArg Value.bool (by decide : decide ((2 : Int) = 2) = true)) rfl ⟨rfl, rfl⟩⟩) ?_
  refine xd_pure 32 (some 0) rfl rfl (by kernel_rfl) (v := (.bool (decide ((0 : Int) = 0)))) (.inl ⟨rfl, fun W_ hW_ => ox_assign (v := (.bool (decide ((0 : Int) = 0)))) rfl ⟨rfl, rfl⟩⟩) ?_
  refine xd_done (by kernel_rfl) ?_ _
  refine xc_ret ?_
  change leaves _ _ _ _ _ _ _
  refine leaves_nil (n := 94) (rs := [.tmp 0]) (vs := [(.bool (decide ((0 : Int) = 0)))]) rfl ⟨⟨by decide, rfl⟩, trivial⟩ ?_
  exact ⟨rfl, (Ext.trans (Ext.trans (Ext.trans (Ext.chg1 (Ext.trans (Ext.trans (Ext.trans (Ext.chg1 (Ext.trans (Ext.chg1 (Ext.trans (Ext.chg1 (Ext.chg1 e1 e2 (by omega)) e3 (by omega)) e4) e5 (by omega)) e6) e7 (by omega)) e8) e9) e10) e11 (by omega)) e12) e13) e14)⟩

end Go.Proofs.Ythhbnodnpajljaa
