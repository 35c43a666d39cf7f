/-
  A store makes a leaf. No conditions.
-/
import Derived.Test.YthhbnodnpajljaaVxi
import Derived.Test.YthhbnodnpajljaaRows
import Derived.Test.YthhbnodnpajljaaDu
import Derived.Test.YthhbnodnpajljaaDa
import Derived.Test.YthhbnodnpajljaaDb
import Derived.Test.YthhbnodnpajljaaDc
set_option linter.unusedVariables false
set_option linter.unusedSimpArgs false
set_option maxRecDepth 100000
set_option maxHeartbeats 4000000
namespace Go.Proofs.Ythhbnodnpajljaa
open Go Go.RowKit Go.Vx


theorem pf_64 : plainF Try.prog 64 = true := by kernel_rfl
theorem pf_65 : plainF Try.prog 65 = true := by kernel_rfl
theorem tF_140_0 : fieldT Try.prog 140 0 = some 0 := by kernel_rfl
theorem tF_84_0 : fieldT Try.prog 84 0 = some 0 := by kernel_rfl
theorem tF_84_1 : fieldT Try.prog 84 1 = some 1 := by kernel_rfl
theorem tF_84_2 : fieldT Try.prog 84 2 = some 2 := by kernel_rfl
theorem tP_124 : placesT Try.prog 124 = some #[(0, 1), (1, 1), (2, 1), (3, 1), (4, 4), (8, 1), (9, 1), (10, 1), (11, 1), (12, 1)] := by kernel_rfl
theorem tZ_124 : zeroOf Try.prog 124 = some (.agg #[(.pointer none), (.int .i64 0), (.int .i64 0), (.int .i64 0), (.int .i64 0), (.int .i64 0), (.int .i64 0), (.int .i64 0), (.slice none 0 0), (.int .i64 0), (.int .i64 0), (.int .i64 0), (.bool false)]) := by kernel_rfl

theorem storeLeaf_calls (s : Nat) (c : Int) (l : Lf) (w : World) (hs : Blk w s #[.int .i64 c] 140) (hc : 0 ≤ c ∧ c < 4611686018427387904) :
    Calls Try.prog 42 #[(.pointer (some ⟨s, 0, none⟩)), (.agg #[(.int .i64 l.kind), (.int .i64 l.skip), (.int .i64 l.len), (.int .i64 l.reach)])] w (Ret (fun v w' => ∃ b, w.heap.size ≤ b ∧ v = (leafT b (c + 1) l).ptr ∧ PN (.pointer (some ⟨s, 0, none⟩)) w' (leafT b (c + 1) l) ∧ Blk w' s #[.int .i64 (c + 1)] 140 ∧ Chg1 s w w')) := by
  have hlt := hs.lt
  have hb1 := byt_bd l.skip
  have hb2 := byt_bd l.len
  refine calls_xc (n := 25) (f := fun s_ => [(.pointer (some ⟨s, 0, none⟩)), (.agg #[(.int .i64 l.kind), (.int .i64 l.skip), (.int .i64 l.len), (.int .i64 l.reach)])].getD s_ undef) Try.func42 rfl rfl (by simp) (fun s_ => by simp) ?_
  refine xc_seq ?_
  refine xc_region ?_
  refine xl_op (P := Try.prog) (some 3) rfl rfl (ox_box (v := (.agg #[(.int .i64 l.kind), (.int .i64 l.skip), (.int .i64 l.len), (.int .i64 l.reach)])) rfl ?_)
  intro w1 e1 z1 b1
  replace b1 : Blk w1 w.heap.size #[(.int .i64 l.kind), (.int .i64 l.skip), (.int .i64 l.len), (.int .i64 l.reach)] 84 := b1
  refine xl_op (P := Try.prog) (some 4) rfl rfl (ox_assign (v := (.pointer none)) rfl ?_)
  refine xl_nil ?_
  refine xc_seq ?_
  refine xc_regionE [] (fun W_ => Chg (fun x => x = s) w1 W_) hmix ?_
  intro w2 e2 z2
  have hS1 : Chg (fun x => x = s) w1 w2 := Ext.to e2
  refine xd_pure 0 (some 5) rfl rfl (by kernel_rfl) (v := (.pointer (some ⟨s, 0, none⟩))) (.inl ⟨rfl, fun W_ hW_ => ox_move (v := (.pointer (some ⟨s, 0, none⟩))) rfl ⟨rfl, rfl⟩⟩) ?_
  refine xd_pure 1 (some 6) rfl rfl (by kernel_rfl) (v := (.pointer (some ⟨s, 0, none⟩))) (.inl ⟨rfl, fun W_ hW_ => ox_move (v := (.pointer (some ⟨s, 0, none⟩))) rfl ⟨rfl, rfl⟩⟩) ?_
  refine xd_pure 2 (some 7) rfl rfl (by kernel_rfl) (v := (.pointer (some ⟨s, 0, none⟩))) (.inl ⟨rfl, fun W_ hW_ => ox_nilCheck (p := ⟨s, 0, none⟩) rfl ⟨rfl, rfl⟩⟩) ?_
  refine xd_pure 3 (some 8) rfl rfl (by kernel_rfl) (v := (.pointer (some ⟨s, 0, none⟩))) (.inl ⟨rfl, fun W_ hW_ => ox_fieldAddr (b := s) (o := 0) tF_140_0 rfl ⟨rfl, rfl⟩⟩) ?_
  refine xd_pure 5 (some 10) rfl rfl (by kernel_rfl) (v := (.pointer (some ⟨w.heap.size, 0, none⟩))) (.inl ⟨rfl, fun W_ hW_ => ox_fieldAddr (b := w.heap.size) (o := 0) tF_84_0 rfl ⟨rfl, rfl⟩⟩) ?_
  refine xd_take 6 (some 11) rfl rfl (by kernel_rfl) (v := (.int .i64 l.kind)) (.inl ⟨rfl, fun W_ hW_ => ox_load (v := (.int .i64 l.kind)) tA_3 rfl ((b1.keep hW_ (fun _h => by have _h1 : w.heap.size = s := _h; have _q := b1.lt; omega)).cell rfl) ⟨rfl, rfl⟩⟩) hS1 ?_
  refine xd_take 7 (some 12) rfl rfl (by kernel_rfl) (v := (.agg #[(.int .i64 l.kind), (.int .i64 l.skip), (.int .i64 l.len), (.int .i64 l.reach)])) (.inl ⟨rfl, fun W_ hW_ => ox_loadN (vs := [(.int .i64 l.kind), (.int .i64 l.skip), (.int .i64 l.len), (.int .i64 l.reach)]) tA_84 tS_84 rfl rfl ⟨(b1.keep hW_ (fun _h => by have _h1 : w.heap.size = s := _h; have _q := b1.lt; omega)).cell rfl, (b1.keep hW_ (fun _h => by have _h1 : w.heap.size = s := _h; have _q := b1.lt; omega)).cell rfl, (b1.keep hW_ (fun _h => by have _h1 : w.heap.size = s := _h; have _q := b1.lt; omega)).cell rfl, (b1.keep hW_ (fun _h => by have _h1 : w.heap.size = s := _h; have _q := b1.lt; omega)).cell rfl, trivial⟩ ⟨rfl, rfl⟩⟩) hS1 ?_
  refine xd_pure 8 (some 13) rfl rfl (by kernel_rfl) (v := (.pointer (some ⟨w.heap.size, 1, none⟩))) (.inl ⟨rfl, fun W_ hW_ => ox_fieldAddr (b := w.heap.size) (o := 0) tF_84_1 rfl ⟨rfl, rfl⟩⟩) ?_
  refine xd_take 9 (some 14) rfl rfl (by kernel_rfl) (v := (.int .i64 l.skip)) (.inl ⟨rfl, fun W_ hW_ => ox_load (v := (.int .i64 l.skip)) tA_3 rfl ((b1.keep hW_ (fun _h => by have _h1 : w.heap.size = s := _h; have _q := b1.lt; omega)).cell rfl) ⟨rfl, rfl⟩⟩) hS1 ?_
  refine xd_pure 11 (some 16) rfl rfl (by kernel_rfl) (v := (.pointer (some ⟨w.heap.size, 2, none⟩))) (.inl ⟨rfl, fun W_ hW_ => ox_fieldAddr (b := w.heap.size) (o := 0) tF_84_2 rfl ⟨rfl, rfl⟩⟩) ?_
  refine xd_take 12 (some 17) rfl rfl (by kernel_rfl) (v := (.int .i64 l.len)) (.inl ⟨rfl, fun W_ hW_ => ox_load (v := (.int .i64 l.len)) tA_3 rfl ((b1.keep hW_ (fun _h => by have _h1 : w.heap.size = s := _h; have _q := b1.lt; omega)).cell rfl) ⟨rfl, rfl⟩⟩) hS1 ?_
  refine xd_pure 15 (some 20) rfl rfl (by kernel_rfl) (v := (.pointer (some ⟨w.heap.size, 0, none⟩))) (.inl ⟨rfl, fun W_ hW_ => ox_fieldAddr (b := w.heap.size) (o := 0) tF_84_0 rfl ⟨rfl, rfl⟩⟩) ?_
  refine xd_take 16 (some 21) rfl rfl (by kernel_rfl) (v := (.int .i64 l.kind)) (.inl ⟨rfl, fun W_ hW_ => ox_load (v := (.int .i64 l.kind)) tA_3 rfl ((b1.keep hW_ (fun _h => by have _h1 : w.heap.size = s := _h; have _q := b1.lt; omega)).cell rfl) ⟨rfl, rfl⟩⟩) hS1 ?_
  refine xd_pure 17 (some 22) rfl rfl (by kernel_rfl) (v := (.bool (decide ((l.kind : Int) = (-1))))) (.inl ⟨rfl, fun W_ hW_ => ox_eql (k := .i64) (a := l.kind) (b := (-1)) rfl rfl ⟨rfl, rfl⟩⟩) ?_
  refine xd_one 4 (some 9) rfl rfl (by kernel_rfl) rfl (ox_callE (al := [(.pointer (some ⟨s, 0, none⟩)), (.int .i64 1)]) pf_64 rfl (ret_mono (add_calls s c 1 w2 ((hs.ext e1).ext e2) (by omega)) ?_))
  rintro _ w3 ⟨rfl, e3, z3, b2⟩
  have he3 := e3.size
  have hS2 : Chg (fun x => x = s) w1 w3 := Chg.chg1 hS1 e3 (by first | (right; omega) | (left; simp))
  refine ⟨.inr fun _ => hS2, ?_⟩
  refine xd_take 10 (some 15) rfl rfl (by kernel_rfl) (v := (.int .i64 (byt l.skip))) (.inl ⟨rfl, fun W_ hW_ => ox_callE (al := [(.int .i64 l.skip)]) pf_65 rfl (ret_mono (bytes_calls l.skip _) (by rintro _ _ ⟨rfl, rfl⟩; exact ⟨rfl, rfl⟩))⟩) hS2 ?_
  refine xd_take 13 (some 18) rfl rfl (by kernel_rfl) (v := (.int .i64 (byt l.len))) (.inl ⟨rfl, fun W_ hW_ => ox_callE (al := [(.int .i64 l.len)]) pf_65 rfl (ret_mono (bytes_calls l.len _) (by rintro _ _ ⟨rfl, rfl⟩; exact ⟨rfl, rfl⟩))⟩) hS2 ?_
  refine xd_pure 14 (some 19) rfl rfl (by kernel_rfl) (v := (.int .i64 (byt l.skip + (byt l.len)))) (.inl ⟨rfl, fun W_ hW_ => ox_add64 (a := (byt l.skip)) (b := (byt l.len)) rfl rfl (by omega) ⟨rfl, rfl⟩⟩) ?_
  refine xd_pure 18 (some 23) rfl rfl (by kernel_rfl) (v := (.agg #[(.pointer (some ⟨s, 0, none⟩)), (.int .i64 (c + 1)), (.int .i64 1), (.int .i64 l.kind), (.int .i64 l.kind), (.int .i64 l.skip), (.int .i64 l.len), (.int .i64 l.reach), (.slice none 0 0), (.int .i64 (byt l.skip + (byt l.len))), (.int .i64 1), (.int .i64 1), (.bool (decide ((l.kind : Int) = (-1))))])) (.inl ⟨rfl, fun W_ hW_ => ox_mkStruct (ps := [(0, (.pointer (some ⟨s, 0, none⟩))), (1, (.int .i64 (c + 1))), (2, (.int .i64 1)), (3, (.int .i64 l.kind)), (4, (.agg #[(.int .i64 l.kind), (.int .i64 l.skip), (.int .i64 l.len), (.int .i64 l.reach)])), (6, (.int .i64 (byt l.skip + (byt l.len)))), (7, (.int .i64 1)), (8, (.int .i64 1)), (9, (.bool (decide ((l.kind : Int) = (-1)))))]) (cs := #[(.pointer (some ⟨s, 0, none⟩)), (.int .i64 (c + 1)), (.int .i64 1), (.int .i64 l.kind), (.int .i64 l.kind), (.int .i64 l.skip), (.int .i64 l.len), (.int .i64 l.reach), (.slice none 0 0), (.int .i64 (byt l.skip + (byt l.len))), (.int .i64 1), (.int .i64 1), (.bool (decide ((l.kind : Int) = (-1))))]) tZ_124 tP_124 rfl (by kernel_rfl) ⟨rfl, rfl⟩⟩) ?_
  refine xd_one 19 (some 24) rfl rfl (by kernel_rfl) rfl (ox_box (v := (.agg #[(.pointer (some ⟨s, 0, none⟩)), (.int .i64 (c + 1)), (.int .i64 1), (.int .i64 l.kind), (.int .i64 l.kind), (.int .i64 l.skip), (.int .i64 l.len), (.int .i64 l.reach), (.slice none 0 0), (.int .i64 (byt l.skip + (byt l.len))), (.int .i64 1), (.int .i64 1), (.bool (decide ((l.kind : Int) = (-1))))])) rfl ?_)
  intro w4 e4 z4 b3
  replace b3 : Blk w4 w3.heap.size #[(.pointer (some ⟨s, 0, none⟩)), (.int .i64 (c + 1)), (.int .i64 1), (.int .i64 l.kind), (.int .i64 l.kind), (.int .i64 l.skip), (.int .i64 l.len), (.int .i64 l.reach), (.slice none 0 0), (.int .i64 (byt l.skip + (byt l.len))), (.int .i64 1), (.int .i64 1), (.bool (decide ((l.kind : Int) = (-1))))] 124 := b3
  have hS3 : Chg (fun x => x = s) w1 w4 := Chg.ext hS2 e4
  refine ⟨.inr fun _ => hS3, ?_⟩
  refine xd_pure 20 (some 4) rfl rfl (by kernel_rfl) (v := (.pointer (some ⟨w3.heap.size, 0, none⟩))) (.inl ⟨rfl, fun W_ hW_ => ox_assign (v := (.pointer (some ⟨w3.heap.size, 0, none⟩))) rfl ⟨rfl, rfl⟩⟩) ?_
  refine xd_done (by kernel_rfl) ?_ _
  refine xc_ret ?_
  change leaves _ _ _ _ _ _ _
  refine leaves_nil (n := 25) (rs := [.tmp 4]) (vs := [(.pointer (some ⟨w3.heap.size, 0, none⟩))]) rfl ⟨⟨by decide, rfl⟩, trivial⟩ ?_
  exact ⟨w3.heap.size, by omega, rfl, PN_leaf b3, (b2.ext e4), (Chg.ext (Chg.chg1 (Chg.ext (Chg.ext (Chg.refl (fun x => x = s) w) e1) e2) e3 (by first | (right; omega) | (left; simp))) e4)⟩

end Go.Proofs.Ythhbnodnpajljaa
