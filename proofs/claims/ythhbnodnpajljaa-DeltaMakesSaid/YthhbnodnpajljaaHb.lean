/-
  The program's Apply. No conditions.
-/
import Derived.Test.YthhbnodnpajljaaVxi
import Derived.Test.YthhbnodnpajljaaRows
import Derived.Test.YthhbnodnpajljaaHa
import Derived.Test.YthhbnodnpajljaaDe
import Derived.Test.YthhbnodnpajljaaDd
import Derived.Test.YthhbnodnpajljaaDi
set_option linter.unusedVariables false
set_option linter.unusedSimpArgs false
set_option maxRecDepth 100000
set_option maxHeartbeats 4000000
namespace Go.Proofs.Ythhbnodnpajljaa
open Go Go.RowKit Go.Vx

theorem nodesL_mem : ∀ {l : List T} {x : T}, x ∈ nodesL l → ∃ t ∈ l, x ∈ nodes t
  | [], x, h => by simp [nodesL] at h
  | t :: r, x, h => by
    simp only [nodesL, List.mem_append] at h
    rcases h with h | h
    · exact ⟨t, .head _, h⟩
    · obtain ⟨u, hu, hx⟩ := nodesL_mem h; exact ⟨u, .tail _ hu, hx⟩
mutual
theorem nodes_WF : ∀ {t : T}, WF t → ∀ x ∈ nodes t, WF x
  | .mk b ka kc id kind n lf kids, h, x, hx => by
    simp only [nodes, List.mem_cons] at hx
    rcases hx with rfl | hx
    · exact h
    · exact nodes_WFL h.kids x hx
theorem nodes_WFL : ∀ {l : List T}, WFL l → ∀ x ∈ nodesL l, WF x
  | [], _, x, hx => by simp [nodesL] at hx
  | t :: r, h, x, hx => by
    simp only [nodesL, List.mem_append] at hx
    exact hx.elim (nodes_WF h.1 x) (nodes_WFL h.2 x)
end
mutual
theorem nodes_trans : ∀ {t y z : T}, y ∈ nodes t → z ∈ nodes y → z ∈ nodes t
  | .mk b ka kc id kind n lf kids, y, z, hy, hz => by
    simp only [nodes, List.mem_cons] at hy
    rcases hy with rfl | hy
    · exact hz
    · simp only [nodes, List.mem_cons]; exact .inr (nodes_transL hy hz)
theorem nodes_transL : ∀ {l : List T} {y z : T}, y ∈ nodesL l → z ∈ nodes y → z ∈ nodesL l
  | [], y, z, hy, _ => by simp [nodesL] at hy
  | t :: r, y, z, hy, hz => by
    simp only [nodesL, List.mem_append] at hy ⊢
    exact hy.imp (fun h => nodes_trans h hz) (fun h => nodes_transL h hz)
end
theorem pf_42 : plainF Try.prog 42 = true := by kernel_rfl
theorem pf_45 : plainF Try.prog 45 = true := by kernel_rfl
theorem pf_50 : plainF Try.prog 50 = true := by kernel_rfl
theorem pf_63 : plainF Try.prog 63 = true := by kernel_rfl
theorem tZ_36 : zeroOf Try.prog 36 = some (.pointer none) := by kernel_rfl

theorem make3_calls (s : Nat) (c kind n : Int) (kids : List T) (A : Option Addr) (cp : Nat) (w : World) (hs : Blk w s #[.int .i64 c] 140) (hc : 0 ≤ c ∧ c < 4611686018427387904) (hk : PNL (.pointer (some ⟨s, 0, none⟩)) w kids) (hA : RowA w A (kids.map T.ptr)) (hcp : (A = none → cp = 0) ∧ ∀ a, A = some a → a = ⟨a.block, a.off, none⟩) (hsz : ∀ t ∈ kids, sz t ≤ 4194304) (hn : kids.length ≤ 1048576) :
    Calls Try.prog 45 #[(.pointer (some ⟨s, 0, none⟩)), .int .i64 kind, .int .i64 n, .slice A kids.length cp] w (Ret fun v w' => ∃ (o : Option Addr) (er cn : Int), v = .tuple #[.pointer o, .int .i64 er] ∧ Blk w' s #[.int .i64 cn] 140 ∧ (c ≤ cn ∧ cn ≤ c + 1) ∧
      (er ≠ 0 → (badKind kind n ∧ o = none ∧ er = 101) ∨ (¬ badKind kind n ∧ 4194304 < 1 + szL kids ∧ o = none ∧ er = 6)) ∧
      (er = 0 → ¬ badKind kind n ∧ 1 + szL kids ≤ 4194304 ∧ cn = c + 1 ∧ ∃ b ka kc, o = some ⟨b, 0, none⟩ ∧ w.heap.size ≤ b ∧ (∀ k ∈ ka, w.heap.size ≤ k) ∧ PN (.pointer (some ⟨s, 0, none⟩)) w' (.mk b ka kc (c + 1) kind n lf0 kids)) ∧ Chg1 s w w') := by
  refine ret_mono (make_calls s c kind n kids A cp w hs hc hk hA hcp hsz hn) ?_
  rintro v w' (⟨h, rfl, he⟩ | ⟨h, h2, rfl, he⟩ | ⟨h, h2, b, ka, kc, rfl, r⟩)
  · exact ⟨none, 101, c, rfl, hs.ext he, ⟨by omega, by omega⟩, fun _ => .inl ⟨h, rfl, rfl⟩, (fun h => by omega), Ext.to he⟩
  · exact ⟨none, 6, c, rfl, hs.ext he, ⟨by omega, by omega⟩, fun _ => .inr ⟨h, h2, rfl, rfl⟩, (fun h => by omega), Ext.to he⟩
  · exact ⟨some ⟨b, 0, none⟩, 0, c + 1, rfl, r.2.2.2.1, ⟨by omega, by omega⟩, (fun h => absurd rfl h), fun _ => ⟨h, h2, rfl, b, ka, kc, rfl, r.1, r.2.1, r.2.2.1⟩, r.2.2.2.2⟩
theorem known_at (ra : T) (hU : ∀ x ∈ nodes ra, ∀ y ∈ nodes ra, x.id = y.id → x = y) (k : Int) : ∃ o : Option Addr, (lookM (kn (walkT 0 ra)) k).getD (.pointer none) = .pointer o ∧ (lookM (kn (walkT 0 ra)) k).isSome = (findT k ra).isSome ∧ ∀ y, findT k ra = some y → o = some ⟨y.b, 0, none⟩ := by
  have h1 : (lookM (kn (walkT 0 ra)) k).isSome = (findT k ra).isSome := by rw [kn_has, findT_has]
  cases hl : lookM (kn (walkT 0 ra)) k with
  | none =>
    refine ⟨none, rfl, by rw [← hl]; exact h1, fun y hy => ?_⟩
    rw [hl, hy] at h1; cases h1
  | some v =>
    obtain ⟨p, hp, hk, rfl⟩ := (kn_look (walkT 0 ra) k).2 v hl
    have hm : p.2 ∈ nodes ra := by rw [← walk_nodes ra 0]; exact List.mem_map.2 ⟨p, hp, rfl⟩
    refine ⟨some ⟨p.2.b, 0, none⟩, rfl, by rw [← hl]; exact h1, fun y hy => ?_⟩
    obtain ⟨h2, h3⟩ := findT_some hy
    rw [hU p.2 hm y h2 (by rw [hk, h3])]

theorem apply_calls (s : Nat) (cc mm : Int) (ra : T) (l : List OpD) (A : Option Addr) (c : Nat) (w : World) (hS : Blk w s #[.int .i64 cc] 140) (hc : 0 ≤ cc ∧ cc ≤ 2305843009213693952) (hm : mm ≤ cc) (hP : PN (.pointer (some ⟨s, 0, none⟩)) w ra) (hW : WF ra) (hs : sz ra ≤ 4194304) (hid : ∀ x ∈ nodes ra, 1 ≤ x.id ∧ x.id ≤ mm) (hU : ∀ x ∈ nodes ra, ∀ y ∈ nodes ra, x.id = y.id → x = y) (hA : RowA w A (opC l)) (hAs : ∀ a, A = some a → a.block ≠ s) (hr : ∀ o ∈ l, (-9223372036854775808 ≤ o.d ∧ o.d ≤ 9223372036854775807) ∧ (-9223372036854775808 ≤ o.kids ∧ o.kids ≤ 9223372036854775807)) (hn : l.length ≤ 1048576) :
    Calls Try.prog 36 #[(.pointer (some ⟨s, 0, none⟩)), (.pointer (some ⟨ra.b, 0, none⟩)), (.slice A l.length c)] w (Ret (fun v w' => ∃ o er c', v = .tuple #[.pointer o, .int .i64 er] ∧ ARes (aEnd (fun k => (findT k ra).map (skz mm)) l) er o (fun y => ∃ p, o = some ⟨p.b, 0, none⟩ ∧ PN (.pointer (some ⟨s, 0, none⟩)) w' p ∧ skz mm p = y ∧ sz p ≤ 4194304 ∧ WF p ∧ ∀ x ∈ nodes p, 1 ≤ x.id) ∧ Blk w' s #[.int .i64 c'] 140 ∧ cc ≤ c' ∧ c' ≤ cc + l.length ∧ Chg1 s w w')) := by
  refine calls_xc (n := 100) (f := fun s_ => [(.pointer (some ⟨s, 0, none⟩)), (.pointer (some ⟨ra.b, 0, none⟩)), (.slice A l.length c)].getD s_ undef) Try.func36 rfl rfl (by simp) (fun s_ => by simp) ?_
  refine xc_seq ?_
  refine xc_region ?_
  refine xl_op (P := Try.prog) (some 6) rfl rfl (ox_assign (v := (.pointer none)) rfl ?_)
  refine xl_op (P := Try.prog) (some 7) rfl rfl (ox_assign (v := (.int .i64 0)) rfl ?_)
  refine xl_nil ?_
  refine xc_seq ?_
  refine xc_seq ?_
  refine xc_region ?_
  refine xl_op (P := Try.prog) (some 17) rfl rfl (ox_move (v := (.slice A l.length c)) rfl ?_)
  refine xl_op (P := Try.prog) (some 18) rfl rfl (ox_len (A := A) (n := l.length) (cp := c) rfl tU_54 rfl ?_)
  refine xl_op (P := Try.prog) (some 19) rfl rfl (ox_gtr (k := .i64) (a := (((l.length : Nat) : Int))) (b := 4194304) rfl rfl ?_)
  refine xl_nil ?_
  refine xc_if (p := (4194304 : Int) < (((l.length : Nat) : Int))) rfl (fun h1 => ?_) (fun h1 => ?_)
  · skip
    have hlong : 4194304 < l.length := by omega
    refine xc_seq ?_
    refine xc_region ?_
    refine xl_op (P := Try.prog) (some 6) rfl rfl (ox_assign (v := (.pointer none)) rfl ?_)
    refine xl_op (P := Try.prog) (some 7) rfl rfl (ox_assign (v := (.int .i64 2)) rfl ?_)
    refine xl_nil ?_
    refine xc_ret ?_
    change leaves _ _ _ _ _ _ _
    refine leaves_nil (n := 100) (rs := [.tmp 6, .tmp 7]) (vs := [(.pointer none), (.int .i64 2)]) rfl ⟨⟨by decide, rfl⟩, ⟨by decide, rfl⟩, trivial⟩ ?_
    exact ⟨none, 2, cc, rfl, by unfold aEnd; rw [if_pos hlong]; exact ⟨rfl, rfl⟩, hS, by omega, by omega, (Chg.refl (fun x => x = s) w)⟩
  · skip
    have hlong : ¬ 4194304 < l.length := by omega
    refine xc_skip ?_
    refine xc_seq ?_
    refine xc_region ?_
    refine xl_op (P := Try.prog) (some 20) rfl rfl (ox_move (v := (.pointer (some ⟨ra.b, 0, none⟩))) rfl ?_)
    refine xl_op (P := Try.prog) (some 21) rfl rfl (ox_callE (al := [(.pointer (some ⟨ra.b, 0, none⟩))]) pf_50 rfl (ret_mono (known_calls (.pointer (some ⟨s, 0, none⟩)) ra w hP hW hs) ?_))
    rintro _ w1 ⟨mb, rfl, hlm, hmb, e1⟩
    have he1 := e1.size
    refine xl_op (P := Try.prog) (some 8) rfl rfl (ox_assign (v := (.map (some mb))) rfl ?_)
    refine xl_nil ?_
    refine xc_seq ?_
    refine xc_region ?_
    refine xl_op (P := Try.prog) (some 9) rfl rfl (ox_assign (v := (.slice none 0 0)) rfl ?_)
    refine xl_nil ?_
    refine xc_seq ?_
    refine xc_seq ?_
    refine xc_region ?_
    refine xl_op (P := Try.prog) (some 22) rfl rfl (ox_move (v := (.slice A l.length c)) rfl ?_)
    refine xl_op (P := Try.prog) (some 23) rfl rfl (ox_len (A := A) (n := l.length) (cp := c) rfl tU_54 rfl ?_)
    refine xl_op (P := Try.prog) (some 24) rfl rfl (ox_move (v := (.int .i64 0)) rfl ?_)
    refine xl_nil ?_
    refine xc_block ?_
    have hsm := (Chg.ext (Chg.refl (fun x => x = s) w) e1).size
    have hS1 := hS.ext e1
    refine xc_loopN (fun m f W => ∃ (i : Nat) (st : List T) (Ao : Option Addr) (co : Nat) (cq : Int), m = l.length - i ∧ i ≤ l.length ∧ st.length ≤ i ∧ (∀ t ∈ st, sz t ≤ 4194304 ∧ WF t ∧ ∀ x ∈ nodes t, 1 ≤ x.id) ∧ (cc ≤ cq ∧ cq ≤ cc + (i : Nat)) ∧ aRun (fun k => (findT k ra).map (skz mm)) l [] = aRun (fun k => (findT k ra).map (skz mm)) (l.drop i) (st.map (skz mm)) ∧ f 0 = (.pointer (some ⟨s, 0, none⟩)) ∧ f 1 = (.pointer (some ⟨ra.b, 0, none⟩)) ∧ f 8 = (.map (some mb)) ∧ f 9 = (.slice Ao st.length co) ∧ f 22 = (.slice A l.length c) ∧ f 23 = (.int .i64 (((l.length : Nat) : Int))) ∧ f 24 = (.int .i64 ((i : Nat))) ∧ Vx.Own W 36 1 (.slice Ao st.length co) st.length (st.map T.ptr) ∧ PNL (.pointer (some ⟨s, 0, none⟩)) W st ∧ MapB encI W mb (kn (walkT 0 ra)) ∧ Blk W s #[.int .i64 cq] 140 ∧ (∀ b ∈ blocksL st, ((.slice Ao st.length co) : Value).ownBlock ≠ some b) ∧ (∀ k, ((.slice Ao st.length co) : Value).ownBlock = some k → w.heap.size ≤ k) ∧ Chg1 s w W) (l.length) ?_ ?_
    · exact ⟨0, [], none, 0, cc, by omega, by omega, by simp, by simp, by omega, by simp, rfl, rfl, rfl, rfl, rfl, rfl, (by first | exact rfl | exact (congrArg (Value.int .i64) (by omega))), (Vx.Own.nil _ _ _), trivial, hmb, hS1, (by simp [blocksL]), (by simp [Value.ownBlock]), (Chg.ext (Chg.refl (fun x => x = s) w) e1)⟩
    · rintro m f1 w2 ⟨i, st, Ao, co, cq, hm, hi, hsti, hst, hcq, hrun, g0_f1, g1_f1, g8_f1, g9_f1, g22_f1, g23_f1, g24_f1, o_f1, pn_f1, map_mb_f1, blk_s_f1, nb_f1, lo_f1, c_f1⟩
      have hzE := c_f1.size
      have hsl := hS.lt
      refine xc_seq ?_
      refine xc_region ?_
      refine xl_op (P := Try.prog) (some 25) rfl rfl (ox_lss (k := .i64) (a := ((i : Nat))) (b := (((l.length : Nat) : Int))) g24_f1 g23_f1 ?_)
      refine xl_nil ?_
      refine xc_seq ?_
      refine xc_if (p := ((i : Nat) : Int) < (((l.length : Nat) : Int))) rfl (fun h2 => ?_) (fun h2 => ?_)
      · skip
        have hil : i < l.length := by omega
        obtain ⟨o, ho⟩ := get_ex (l := l) (i := i) hil
        obtain ⟨hro, hrk⟩ := hr o (List.mem_of_getElem? ho)
        have hwr : 0 ≤ o.kids → IntKind.i64.wrap (((st.length : Nat) : Int) - o.kids) = ((st.length : Nat) : Int) - o.kids := fun h0 => wrap_in (by omega)
        obtain ⟨g, oo, rfl⟩ := hA.ex (by intro hh; cases l with | nil => simp at ho | cons q l => simp [opC, OpD.cs] at hh)
        have hgs : g ≠ s := hAs _ rfl
        have hco : CellsL w g (oo + i * 9) o.cs := cellsL_flat OpD.cs 9 (fun _ => rfl) hA.cells ho
        refine xc_skip ?_
        refine xc_seq ?_
        refine xc_block ?_
        refine xc_seq ?_
        refine xc_region ?_
        refine xl_op (P := Try.prog) (some 26) rfl rfl (ox_indexAddr (b := g) (o := oo) (i := ((i : Nat))) tE_54 g22_f1 g24_f1 (by omega) (by omega) ?_)
        refine xl_op (P := Try.prog) (some 27) rfl rfl (ox_loadN (vs := [(.int .i64 o.d), (.int .i64 o.id), (.int .i64 o.kind), (.int .i64 o.n), (.int .i64 o.kids), (.int .i64 o.lf.kind), (.int .i64 o.lf.skip), (.int .i64 o.lf.len), (.int .i64 o.lf.reach)]) tA_88 tS_88 rfl rfl (CellsL.keep c_f1 hgs hco) ?_)
        refine xl_op (P := Try.prog) (some 11) rfl rfl (ox_alloc tZ_88 ?_)
        intro w3 e2 z1 b1
        replace b1 : Blk w3 w2.heap.size #[(.int .i64 0), (.int .i64 0), (.int .i64 0), (.int .i64 0), (.int .i64 0), (.int .i64 0), (.int .i64 0), (.int .i64 0), (.int .i64 0)] 88 := b1
        refine xl_op (P := Try.prog) none rfl rfl (ox_store (n := 9) (vs := [(.int .i64 o.d), (.int .i64 o.id), (.int .i64 o.kind), (.int .i64 o.n), (.int .i64 o.kids), (.int .i64 o.lf.kind), (.int .i64 o.lf.skip), (.int .i64 o.lf.len), (.int .i64 o.lf.reach)]) tS_88 rfl (v := (.agg #[(.int .i64 o.d), (.int .i64 o.id), (.int .i64 o.kind), (.int .i64 o.n), (.int .i64 o.kids), (.int .i64 o.lf.kind), (.int .i64 o.lf.skip), (.int .i64 o.lf.len), (.int .i64 o.lf.reach)])) rfl rfl rfl rfl b1 (Nat.le_of_ble_eq_true rfl) ?_)
        intro w4 e3 z2 b2
        replace b2 : Blk w4 w2.heap.size #[(.int .i64 o.d), (.int .i64 o.id), (.int .i64 o.kind), (.int .i64 o.n), (.int .i64 o.kids), (.int .i64 o.lf.kind), (.int .i64 o.lf.skip), (.int .i64 o.lf.len), (.int .i64 o.lf.reach)] 88 := blk_full b2 rfl
        refine xl_nil ?_
        refine xc_seq ?_
        refine xc_seq ?_
        refine xc_regionE [] (fun W_ => Chg (fun _ => False) w4 W_) hmix ?_
        intro w5 e4 z3
        have hS1 : Chg (fun _ => False) w4 w5 := Ext.to e4
        refine xd_take 0 (some 28) rfl rfl (by kernel_rfl) (v := (.agg #[(.int .i64 o.d), (.int .i64 o.id), (.int .i64 o.kind), (.int .i64 o.n), (.int .i64 o.kids), (.int .i64 o.lf.kind), (.int .i64 o.lf.skip), (.int .i64 o.lf.len), (.int .i64 o.lf.reach)])) (.inl ⟨rfl, fun W_ hW_ => ox_loadN (vs := [(.int .i64 o.d), (.int .i64 o.id), (.int .i64 o.kind), (.int .i64 o.n), (.int .i64 o.kids), (.int .i64 o.lf.kind), (.int .i64 o.lf.skip), (.int .i64 o.lf.len), (.int .i64 o.lf.reach)]) tA_88 tS_88 rfl rfl ⟨(b2.ext hW_).cell rfl, (b2.ext hW_).cell rfl, (b2.ext hW_).cell rfl, (b2.ext hW_).cell rfl, (b2.ext hW_).cell rfl, (b2.ext hW_).cell rfl, (b2.ext hW_).cell rfl, (b2.ext hW_).cell rfl, (b2.ext hW_).cell rfl, trivial⟩ ⟨rfl, rfl⟩⟩) hS1 ?_
        refine xd_take 1 (some 29) rfl rfl (by kernel_rfl) (v := (.agg #[(.int .i64 o.d), (.int .i64 o.id), (.int .i64 o.kind), (.int .i64 o.n), (.int .i64 o.kids), (.int .i64 o.lf.kind), (.int .i64 o.lf.skip), (.int .i64 o.lf.len), (.int .i64 o.lf.reach)])) (.inl ⟨rfl, fun W_ hW_ => ox_loadN (vs := [(.int .i64 o.d), (.int .i64 o.id), (.int .i64 o.kind), (.int .i64 o.n), (.int .i64 o.kids), (.int .i64 o.lf.kind), (.int .i64 o.lf.skip), (.int .i64 o.lf.len), (.int .i64 o.lf.reach)]) tA_88 tS_88 rfl rfl ⟨(b2.ext hW_).cell rfl, (b2.ext hW_).cell rfl, (b2.ext hW_).cell rfl, (b2.ext hW_).cell rfl, (b2.ext hW_).cell rfl, (b2.ext hW_).cell rfl, (b2.ext hW_).cell rfl, (b2.ext hW_).cell rfl, (b2.ext hW_).cell rfl, trivial⟩ ⟨rfl, rfl⟩⟩) hS1 ?_
        refine xd_one 2 (some 30) rfl rfl (by kernel_rfl) rfl (ox_callE (al := [(.agg #[(.int .i64 o.d), (.int .i64 o.id), (.int .i64 o.kind), (.int .i64 o.n), (.int .i64 o.kids), (.int .i64 o.lf.kind), (.int .i64 o.lf.skip), (.int .i64 o.lf.len), (.int .i64 o.lf.reach)])]) pf_63 rfl (ret_mono (named_calls o w5) ?_))
        rintro _ w6 ⟨rfl, e5⟩
        have he5 := e5.size
        have hS2 : Chg (fun _ => False) w4 w6 := Chg.ext hS1 e5
        refine ⟨.inr fun _ => hS2, ?_⟩
        refine xd_pure 3 (some 31) rfl rfl (by kernel_rfl) (v := (.bool (!decide (rightD o)))) (.inl ⟨rfl, fun W_ hW_ => ox_neqF (xs := [(.int .i64 o.d), (.int .i64 o.id), (.int .i64 o.kind), (.int .i64 o.n), (.int .i64 o.kids), (.int .i64 o.lf.kind), (.int .i64 o.lf.skip), (.int .i64 o.lf.len), (.int .i64 o.lf.reach)]) (ys := [(.int .i64 ((namedD o).d)), (.int .i64 ((namedD o).id)), (.int .i64 ((namedD o).kind)), (.int .i64 ((namedD o).n)), (.int .i64 ((namedD o).kids)), (.int .i64 ((namedD o).lf.kind)), (.int .i64 ((namedD o).lf.skip)), (.int .i64 ((namedD o).lf.len)), (.int .i64 ((namedD o).lf.reach))]) (p := rightD o) fS_88 rfl rfl rfl rfl (named_right hro) ⟨rfl, rfl⟩⟩) ?_
        refine xd_done (by kernel_rfl) ?_ _
        refine xc_cond (b := (!decide (rightD o))) rfl (fun h3 => ?_) (fun h3 => ?_)
        · skip
          have h3' := h3
          try simp only [Bool.or_eq_true, Bool.and_eq_true, decide_eq_true_eq, Bool.or_eq_false_iff, Bool.and_eq_false_iff, decide_eq_false_iff_not, Bool.not_eq_true', Bool.not_eq_false'] at h3'
          have hrt : ¬ rightD o := by simpa using h3
          refine xc_seq ?_
          refine xc_region ?_
          refine xl_op (P := Try.prog) (some 6) rfl rfl (ox_assign (v := (.pointer none)) rfl ?_)
          refine xl_op (P := Try.prog) (some 7) rfl rfl (ox_assign (v := (.int .i64 150)) rfl ?_)
          refine xl_nil ?_
          refine xc_ret ?_
          change leaves _ _ _ _ _ _ _
          refine leaves_nil (n := 100) (rs := [.tmp 6, .tmp 7]) (vs := [(.pointer none), (.int .i64 150)]) rfl ⟨⟨by decide, rfl⟩, ⟨by decide, rfl⟩, trivial⟩ ?_
          have q1 := ((blk_s_f1.ext e2).keep1 e3 ((blk_s_f1.ext e2).ne b1 (by decide)))
          exact ⟨none, 150, _, rfl, by rw [aEnd_err hlong (aRun_err ho hrun (aStep_wrong hrt))]; exact ⟨rfl, rfl⟩, ((q1.ext e4).ext e5), by omega, by omega, (Chg.ext (Chg.ext (Chg.chg1 (Chg.ext c_f1 e2) e3 (by first | (left; rfl) | (right; omega))) e4) e5)⟩
        · skip
          have h3' := h3
          try simp only [Bool.or_eq_true, Bool.and_eq_true, decide_eq_true_eq, Bool.or_eq_false_iff, Bool.and_eq_false_iff, decide_eq_false_iff_not, Bool.not_eq_true', Bool.not_eq_false'] at h3'
          have hrt : rightD o := by simpa using h3
          refine xc_skip ?_
          refine xc_seq ?_
          refine xc_region ?_
          refine xl_op (P := Try.prog) (some 32) rfl rfl (ox_fieldAddr (b := w2.heap.size) (o := 0) tF_88_0 rfl ?_)
          refine xl_op (P := Try.prog) (some 33) rfl rfl (ox_load (v := (.int .i64 o.d)) tA_3 rfl (((b2.ext e4).ext e5).cell rfl) ?_)
          refine xl_nil ?_
          refine xc_block ?_
          refine xc_seq ?_
          refine xc_region ?_
          refine xl_op (P := Try.prog) (some 35) rfl rfl (ox_eql (k := .i64) (a := o.d) (b := 1) rfl rfl ?_)
          refine xl_op (P := Try.prog) (some 34) rfl rfl (ox_assign (v := (.bool (decide ((o.d : Int) = 1)))) rfl ?_)
          refine xl_nil ?_
          refine xc_if (p := (o.d : Int) = 1) rfl (fun h4 => ?_) (fun h4 => ?_)
          · skip
            have hd1 : o.d = 1 := h4
            obtain ⟨kv, hkv, hks, hk1⟩ := known_at ra hU o.id
            refine xc_seq ?_
            refine xc_region ?_
            refine xl_op (P := Try.prog) (some 37) rfl rfl (ox_move (v := (.map (some mb))) g8_f1 ?_)
            refine xl_op (P := Try.prog) (some 38) rfl rfl (ox_fieldAddr (b := w2.heap.size) (o := 0) tF_88_1 rfl ?_)
            refine xl_op (P := Try.prog) (some 39) rfl rfl (ox_load (v := (.int .i64 o.id)) tA_3 rfl (((b2.ext e4).ext e5).cell rfl) ?_)
            have q2 := ((map_mb_f1.ext e2).keep1 e3 (fun _h => (map_mb_f1.ext e2).ne_blk b1 _h))
            refine xl_op (P := Try.prog) (some 40) rfl rfl (ox_lookup2V (enc := (fun i : Int => .int .i64 i)) (.pointer kv) ((findT o.id ra).isSome) (keyT_int tU_3) tU_111 tZ_36 ((q2.ext e4).ext e5) rfl rfl hkv hks ?_)
            refine xl_op (P := Try.prog) (some 36) rfl rfl (ox_move (v := (.tuple #[(.pointer kv), (.bool ((findT o.id ra).isSome))])) rfl ?_)
            refine xl_op (P := Try.prog) (some 41) rfl rfl (ox_extract (vs := #[(.pointer kv), (.bool ((findT o.id ra).isSome))]) (v := (.pointer kv)) rfl rfl ?_)
            refine xl_op (P := Try.prog) (some 42) rfl rfl (ox_extract (vs := #[(.pointer kv), (.bool ((findT o.id ra).isSome))]) (v := (.bool ((findT o.id ra).isSome))) rfl rfl ?_)
            refine xl_op (P := Try.prog) (some 12) rfl rfl (ox_assign (v := (.pointer kv)) rfl ?_)
            refine xl_op (P := Try.prog) (some 13) rfl rfl (ox_assign (v := (.bool ((findT o.id ra).isSome))) rfl ?_)
            refine xl_nil ?_
            refine xc_seq ?_
            refine xc_seq ?_
            refine xc_region ?_
            refine xl_op (P := Try.prog) (some 43) rfl rfl (ox_move (v := (.bool ((findT o.id ra).isSome))) rfl ?_)
            refine xl_op (P := Try.prog) (some 44) rfl rfl (ox_not (b := (((findT o.id ra).isSome))) rfl ?_)
            refine xl_nil ?_
            refine xc_cond (b := (!((findT o.id ra).isSome))) rfl (fun h5 => ?_) (fun h5 => ?_)
            · skip
              have h5' := h5
              try simp only [Bool.or_eq_true, Bool.and_eq_true, decide_eq_true_eq, Bool.or_eq_false_iff, Bool.and_eq_false_iff, decide_eq_false_iff_not, Bool.not_eq_true', Bool.not_eq_false'] at h5'
              have hy : findT o.id ra = none := by cases hq : findT o.id ra with | none => rfl | some y => (rw [hq] at h5; simp at h5)
              refine xc_seq ?_
              refine xc_region ?_
              refine xl_op (P := Try.prog) (some 6) rfl rfl (ox_assign (v := (.pointer none)) rfl ?_)
              refine xl_op (P := Try.prog) (some 7) rfl rfl (ox_assign (v := (.int .i64 150)) rfl ?_)
              refine xl_nil ?_
              refine xc_ret ?_
              change leaves _ _ _ _ _ _ _
              refine leaves_nil (n := 100) (rs := [.tmp 6, .tmp 7]) (vs := [(.pointer none), (.int .i64 150)]) rfl ⟨⟨by decide, rfl⟩, ⟨by decide, rfl⟩, trivial⟩ ?_
              have q3 := ((blk_s_f1.ext e2).keep1 e3 ((blk_s_f1.ext e2).ne b1 (by decide)))
              exact ⟨none, 150, _, rfl, by rw [aEnd_err hlong (aRun_err ho hrun (aStep_lost hrt hd1 (by simp only [hy]; rfl)))]; exact ⟨rfl, rfl⟩, ((q3.ext e4).ext e5), by omega, by omega, (Chg.ext (Chg.ext (Chg.chg1 (Chg.ext c_f1 e2) e3 (by first | (left; rfl) | (right; omega))) e4) e5)⟩
            · skip
              have h5' := h5
              try simp only [Bool.or_eq_true, Bool.and_eq_true, decide_eq_true_eq, Bool.or_eq_false_iff, Bool.and_eq_false_iff, decide_eq_false_iff_not, Bool.not_eq_true', Bool.not_eq_false'] at h5'
              obtain ⟨y, hy⟩ : ∃ y, findT o.id ra = some y := by cases hq : findT o.id ra with | none => (rw [hq] at h5; simp at h5) | some y => exact ⟨y, rfl⟩
              refine xc_skip ?_
              refine xc_region ?_
              refine xl_op (P := Try.prog) (some 45) rfl rfl (ox_move (v := (.slice Ao st.length co)) g9_f1 ?_)
              refine xl_op (P := Try.prog) (some 46) rfl rfl (ox_move (v := (.pointer (some ⟨y.b, 0, none⟩))) (congrArg Value.pointer (hk1 y hy)) ?_)
              refine xl_op (P := Try.prog) (some 47) rfl rfl (ox_mkSlice (ps := [(0, (.pointer (some ⟨y.b, 0, none⟩)))]) (zs := #[(.pointer none)]) (cs := #[(.pointer (some ⟨y.b, 0, none⟩))]) tE_28 rfl (by decide) (by kernel_rfl) (by kernel_rfl) ?_)
              intro w7 e6 z4 b3
              replace b3 : Blk w7 w6.heap.size #[(.pointer (some ⟨y.b, 0, none⟩))] 36 := b3
              have hpy := nodes_PN hP y (findT_some hy).1
              have hpx : PN (.pointer (some ⟨s, 0, none⟩)) w7 y := (PN.keep (Chg.ext (Chg.ext (Chg.ext (Chg.chg1 (Chg.ext c_f1 e2) e3 (by first | (left; rfl) | (right; omega))) e4) e5) e6) hpy (fun b hb hh => PN.off hS (by decide) (by decide) hpy b hb hh))
              have hly := PN.lt hpy
              have hun : ∀ b ∈ blocks y, ((.slice Ao st.length co) : Value).ownBlock ≠ some b := fun b hb hh => by have h1 := hly b hb; have h2 := lo_f1 b hh; omega
              have q4 := (PNL.keep e3 (PNL.ext pn_f1 e2) (fun b hb hh => PNL.off b1 (by decide) (by decide) (PNL.ext pn_f1 e2) b hb hh))
              have q5 := (PNL.ext (PNL.ext (PNL.ext q4 e4) e5) e6)
              have hlA := PNL.lt q5
              have hlX := PN.lt hpx
              have q6 := ((o_f1.ext e2).keep1 e3 (fun k hk => (o_f1.ext e2).ne_blk b1 (by decide) k hk))
              refine xl_op (P := Try.prog) (some 48) rfl rfl (ox_append (n := st.length) (g := w6.heap.size) (o := 0) (m := 1) (xs := ((st.map T.ptr))) (news := ([(.pointer (some ⟨y.b, 0, none⟩))])) rfl tE_28 rfl (by decide) (v := (.slice Ao st.length co)) rfl rfl (((q6.ext e4).ext e5).ext e6) rfl b3.all rfl (by omega) (by omega) ?_)
              intro v1 w8 o1 e7 at1 nil1
              have he7 := e7.size
              obtain ⟨A1, c1, rfl, hc1⟩ := o1.shape
              have low1 : ∀ _k, (Value.slice A1 (st.length + 1) c1).ownBlock = some _k → w.heap.size ≤ _k := fun _k _h => by rcases at1 with _e | _e <;> rw [_e] at _h; exact lo_f1 _k _h; exact (by cases _h; omega)
              have nb2 := nb_snoc (l := st) at1 nb_f1 hun hlA hlX
              refine xl_op (P := Try.prog) (some 9) rfl rfl (ox_assign (v := (.slice A1 (st.length + 1) c1)) rfl ?_)
              refine xl_nil ?_
              refine xc_region ?_
              refine xl_op (P := Try.prog) (some 93) rfl rfl (ox_add64 (a := ((i : Nat))) (b := 1) g24_f1 rfl (by omega) ?_)
              refine xl_op (P := Try.prog) (some 24) rfl rfl (ox_move (v := (.int .i64 ((i : Nat) + 1))) rfl ?_)
              refine xl_nil ?_
              have ho9 := o1
              have q7 := (PNL.keep e7 q5 (fun b hb hh => nb_f1 b hb hh))
              have hp9 := q7
              have q8 := (PN.keep e7 hpx (fun b hb hh => hun b hb hh))
              have hx9 := q8
              have q9 := ((((q2.ext e4).ext e5).ext e6).keep e7 (fun _h => by rcases (((q6.ext e4).ext e5).ext e6).form with ⟨_e, _⟩ | ⟨_g, _c, _cur, _e, _hb, _⟩ <;> rw [_e] at _h <;> simp [Value.ownBlock] at _h; exact (((q2.ext e4).ext e5).ext e6).ne_blk _hb _h.symm))
              have hm9 := q9
              have q10 := ((blk_s_f1.ext e2).keep1 e3 ((blk_s_f1.ext e2).ne b1 (by decide)))
              have q11 := ((((q10.ext e4).ext e5).ext e6).keep e7 (fun _h => (((q6.ext e4).ext e5).ext e6).ne_blk (((q10.ext e4).ext e5).ext e6) (by decide) _ _h rfl))
              have hs9 := q11
              have hsz0 := e2.size
              have hsz1 := e3.size
              have hsz2 := e4.size
              have hsz3 := e5.size
              have hsz4 := e6.size
              have hsz5 := e7.size
              have hl9 : (st ++ [y]).length = st.length + 1 := by simp
              exact ⟨rfl, l.length - (i + 1), by omega, i + 1, (st ++ [y]), A1, c1, cq, by omega, by omega, by rw [hl9]; omega, fun y hy9 => by rcases List.mem_append.1 hy9 with h | h; exact hst y h; simp at h; subst h; exact ⟨by have := nodes_sz (findT_some hy).1; omega, nodes_WF hW y (findT_some hy).1, fun z hz => (hid z (nodes_trans (findT_some hy).1 hz)).1⟩, by omega, by have h9 := aRun_on ho hrun (aStep_keep hrt hd1 (x := skz mm y) (by simp only [hy]; rfl)); rw [h9, List.map_append]; simp [], g0_f1, g1_f1, g8_f1, (by rw [hl9]; rfl), g22_f1, g23_f1, (by first | exact rfl | exact (congrArg (Value.int .i64) (by omega))), (by rw [hl9, List.map_append]; exact ho9), (PNL_snoc hp9 hx9), hm9, hs9, (by rw [hl9]; exact nb2), (by rw [hl9]; exact low1), (Chg.trans (Chg.ext (Chg.ext (Chg.ext (Chg.chg1 (Chg.ext c_f1 e2) e3 (by first | (left; rfl) | (right; omega))) e4) e5) e6) e7 (fun b hb hl => absurd hl (by have := lo_f1 b hb; omega)))⟩
          · skip
            have hd1 : o.d ≠ 1 := h4
            refine xc_seq ?_
            refine xc_region ?_
            refine xl_op (P := Try.prog) (some 50) rfl rfl (ox_eql (k := .i64) (a := o.d) (b := 2) rfl rfl ?_)
            refine xl_op (P := Try.prog) (some 49) rfl rfl (ox_assign (v := (.bool (decide ((o.d : Int) = 2)))) rfl ?_)
            refine xl_nil ?_
            refine xc_if (p := (o.d : Int) = 2) rfl (fun h6 => ?_) (fun h6 => ?_)
            · skip
              have hd2 : o.d = 2 := h6
              refine xc_region ?_
              refine xl_op (P := Try.prog) (some 51) rfl rfl (ox_move (v := (.slice Ao st.length co)) g9_f1 ?_)
              refine xl_op (P := Try.prog) (some 52) rfl rfl (ox_move (v := (.pointer (some ⟨s, 0, none⟩))) g0_f1 ?_)
              refine xl_op (P := Try.prog) (some 53) rfl rfl (ox_fieldAddr (b := w2.heap.size) (o := 0) tF_88_5 rfl ?_)
              refine xl_op (P := Try.prog) (some 54) rfl rfl (ox_loadN (vs := [(.int .i64 o.lf.kind), (.int .i64 o.lf.skip), (.int .i64 o.lf.len), (.int .i64 o.lf.reach)]) tA_84 tS_84 rfl rfl ⟨((b2.ext e4).ext e5).cell rfl, ((b2.ext e4).ext e5).cell rfl, ((b2.ext e4).ext e5).cell rfl, ((b2.ext e4).ext e5).cell rfl, trivial⟩ ?_)
              have q12 := ((blk_s_f1.ext e2).keep1 e3 ((blk_s_f1.ext e2).ne b1 (by decide)))
              have q13 := ((o_f1.ext e2).keep1 e3 (fun k hk => (o_f1.ext e2).ne_blk b1 (by decide) k hk))
              have hlto := (((q13.ext e4).ext e5)).lt
              refine xl_op (P := Try.prog) (some 55) rfl rfl (ox_callE (al := [(.pointer (some ⟨s, 0, none⟩)), (.agg #[(.int .i64 o.lf.kind), (.int .i64 o.lf.skip), (.int .i64 o.lf.len), (.int .i64 o.lf.reach)])]) pf_42 rfl (ret_mono (storeLeaf_calls s cq o.lf w6 ((q12.ext e4).ext e5) (by omega)) ?_))
              rintro _ w9 ⟨bn, hbn, rfl, hpx, hs1, e8⟩
              have he8 := e8.size
              replace hs1 : Blk w9 s #[.int .i64 (cq + 1)] 140 := hs1
              refine xl_op (P := Try.prog) (some 56) rfl rfl (ox_mkSlice (ps := [(0, (.pointer (some ⟨bn, 0, none⟩)))]) (zs := #[(.pointer none)]) (cs := #[(.pointer (some ⟨bn, 0, none⟩))]) tE_28 rfl (by decide) (by kernel_rfl) (by kernel_rfl) ?_)
              intro w10 e9 z5 b4
              replace b4 : Blk w10 w9.heap.size #[(.pointer (some ⟨bn, 0, none⟩))] 36 := b4
              have hun : ∀ b ∈ blocks (leafT bn (cq + 1) o.lf), ((.slice Ao st.length co) : Value).ownBlock ≠ some b := fun b hb hh => by rw [blocks_leafT] at hb; simp at hb; subst hb; have := hlto _ hh; omega
              have q14 := (PNL.keep e3 (PNL.ext pn_f1 e2) (fun b hb hh => PNL.off b1 (by decide) (by decide) (PNL.ext pn_f1 e2) b hb hh))
              have q15 := (PNL.keep e8 (PNL.ext (PNL.ext q14 e4) e5) (fun b hb hh => PNL.off ((q12.ext e4).ext e5) (by decide) (by decide) (PNL.ext (PNL.ext q14 e4) e5) b hb hh))
              have hlA := PNL.lt (PNL.ext q15 e9)
              have hlX := PN.lt (PN.ext hpx e9)
              have q16 := (((q13.ext e4).ext e5).keep1 e8 (fun k hk => ((q13.ext e4).ext e5).ne_blk ((q12.ext e4).ext e5) (by decide) k hk))
              refine xl_op (P := Try.prog) (some 57) rfl rfl (ox_append (n := st.length) (g := w9.heap.size) (o := 0) (m := 1) (xs := ((st.map T.ptr))) (news := ([(.pointer (some ⟨bn, 0, none⟩))])) rfl tE_28 rfl (by decide) (v := (.slice Ao st.length co)) rfl rfl (q16.ext e9) rfl b4.all rfl (by omega) (by omega) ?_)
              intro v2 w11 o2 e10 at2 nil2
              have he10 := e10.size
              obtain ⟨A2, c2, rfl, hc2⟩ := o2.shape
              have low2 : ∀ _k, (Value.slice A2 (st.length + 1) c2).ownBlock = some _k → w.heap.size ≤ _k := fun _k _h => by rcases at2 with _e | _e <;> rw [_e] at _h; exact lo_f1 _k _h; exact (by cases _h; omega)
              have nb2 := nb_snoc (l := st) at2 nb_f1 hun hlA hlX
              refine xl_op (P := Try.prog) (some 9) rfl rfl (ox_assign (v := (.slice A2 (st.length + 1) c2)) rfl ?_)
              refine xl_nil ?_
              refine xc_region ?_
              refine xl_op (P := Try.prog) (some 93) rfl rfl (ox_add64 (a := ((i : Nat))) (b := 1) g24_f1 rfl (by omega) ?_)
              refine xl_op (P := Try.prog) (some 24) rfl rfl (ox_move (v := (.int .i64 ((i : Nat) + 1))) rfl ?_)
              refine xl_nil ?_
              have ho9 := o2
              have q17 := (PNL.keep e10 (PNL.ext q15 e9) (fun b hb hh => nb_f1 b hb hh))
              have hp9 := q17
              have q18 := (PN.keep e10 (PN.ext hpx e9) (fun b hb hh => hun b hb hh))
              have hx9 := q18
              have q19 := ((map_mb_f1.ext e2).keep1 e3 (fun _h => (map_mb_f1.ext e2).ne_blk b1 _h))
              have q20 := (((q19.ext e4).ext e5).keep1 e8 (fun _h => ((q19.ext e4).ext e5).ne_blk ((q12.ext e4).ext e5) _h))
              have q21 := ((q20.ext e9).keep e10 (fun _h => by rcases (q16.ext e9).form with ⟨_e, _⟩ | ⟨_g, _c, _cur, _e, _hb, _⟩ <;> rw [_e] at _h <;> simp [Value.ownBlock] at _h; exact (q20.ext e9).ne_blk _hb _h.symm))
              have hm9 := q21
              have q22 := ((hs1.ext e9).keep e10 (fun _h => (q16.ext e9).ne_blk (hs1.ext e9) (by decide) _ _h rfl))
              have hs9 := q22
              have hsz0 := e2.size
              have hsz1 := e3.size
              have hsz2 := e4.size
              have hsz3 := e5.size
              have hsz4 := e8.size
              have hsz5 := e9.size
              have hsz6 := e10.size
              have hl9 : (st ++ [(leafT bn (cq + 1) o.lf)]).length = st.length + 1 := by simp
              exact ⟨rfl, l.length - (i + 1), by omega, i + 1, (st ++ [(leafT bn (cq + 1) o.lf)]), A2, c2, (cq + 1), by omega, by omega, by rw [hl9]; omega, fun y hy9 => by rcases List.mem_append.1 hy9 with h | h; exact hst y h; simp at h; subst h; exact ⟨by rw [sz_leafT]; omega, WF_leafT _ _ _, fun z hz => by simp [leafT, nodes, nodesL] at hz; subst hz; simp [T.id]; omega⟩, by omega, by have h9 := aRun_on ho hrun (aStep_leaf hrt hd2); rw [h9, List.map_append]; simp [skz_leaf (show mm < cq + 1 by omega)], g0_f1, g1_f1, g8_f1, (by rw [hl9]; rfl), g22_f1, g23_f1, (by first | exact rfl | exact (congrArg (Value.int .i64) (by omega))), (by rw [hl9, List.map_append]; exact ho9), (PNL_snoc hp9 hx9), hm9, hs9, (by rw [hl9]; exact nb2), (by rw [hl9]; exact low2), (Chg.trans (Chg.ext (Chg.chg1 (Chg.ext (Chg.ext (Chg.chg1 (Chg.ext c_f1 e2) e3 (by first | (left; rfl) | (right; omega))) e4) e5) e8 (by first | (left; rfl) | (right; omega))) e9) e10 (fun b hb hl => absurd hl (by have := lo_f1 b hb; omega)))⟩
            · skip
              have hd2 : o.d ≠ 2 := h6
              refine xc_seq ?_
              refine xc_region ?_
              refine xl_op (P := Try.prog) (some 59) rfl rfl (ox_eql (k := .i64) (a := o.d) (b := 3) rfl rfl ?_)
              refine xl_op (P := Try.prog) (some 58) rfl rfl (ox_assign (v := (.bool (decide ((o.d : Int) = 3)))) rfl ?_)
              refine xl_nil ?_
              refine xc_if (p := (o.d : Int) = 3) rfl (fun h7 => ?_) (fun h7 => ?_)
              · skip
                have hd3 : o.d = 3 := h7
                refine xc_seq ?_
                refine xc_region ?_
                refine xl_op (P := Try.prog) (some 60) rfl rfl (ox_move (v := (.slice Ao st.length co)) g9_f1 ?_)
                refine xl_op (P := Try.prog) (some 61) rfl rfl (ox_len (A := Ao) (n := st.length) (cp := co) rfl tU_28 rfl ?_)
                refine xl_op (P := Try.prog) (some 62) rfl rfl (ox_fieldAddr (b := w2.heap.size) (o := 0) tF_88_4 rfl ?_)
                refine xl_op (P := Try.prog) (some 63) rfl rfl (ox_load (v := (.int .i64 o.kids)) tA_3 rfl (((b2.ext e4).ext e5).cell rfl) ?_)
                refine xl_op (P := Try.prog) (some 64) rfl rfl (ox_sub (k := .i64) (a := (((st.length : Nat) : Int))) (b := o.kids) rfl rfl ?_)
                refine xl_op (P := Try.prog) (some 14) rfl rfl (ox_assign (v := (.int .i64 (IntKind.i64.wrap (((st.length : Nat) : Int) - o.kids)))) rfl ?_)
                refine xl_nil ?_
                refine xc_seq ?_
                refine xc_seq ?_
                refine xc_region ?_
                refine xl_op (P := Try.prog) (some 65) rfl rfl (ox_fieldAddr (b := w2.heap.size) (o := 0) tF_88_4 rfl ?_)
                refine xl_op (P := Try.prog) (some 66) rfl rfl (ox_load (v := (.int .i64 o.kids)) tA_3 rfl (((b2.ext e4).ext e5).cell rfl) ?_)
                refine xl_op (P := Try.prog) (some 67) rfl rfl (ox_lss (k := .i64) (a := o.kids) (b := 0) rfl rfl ?_)
                refine xl_op (P := Try.prog) (some 68) rfl rfl (ox_move (v := (.bool (decide ((o.kids : Int) < 0)))) rfl ?_)
                refine xl_may (P := Try.prog) (some 69) (j := 3) (b := false) (((decide ((o.kids : Int) < 0))) = false) (.bool (decide ((o.kids : Int) < 0))) (.int .i64 (IntKind.i64.wrap (((st.length : Nat) : Int) - o.kids))) rfl rfl rfl (may_b ((decide ((o.kids : Int) < 0))) false) (fun hp => ox_move (v := (.int .i64 (IntKind.i64.wrap (((st.length : Nat) : Int) - o.kids)))) rfl ⟨rfl, rfl⟩) ?_
                refine xl_may (P := Try.prog) (some 70) (j := 3) (b := false) (((decide ((o.kids : Int) < 0))) = false) (.bool (decide ((o.kids : Int) < 0))) (.bool (decide ((IntKind.i64.wrap (((st.length : Nat) : Int) - o.kids) : Int) < 0))) rfl rfl rfl (may_b ((decide ((o.kids : Int) < 0))) false) (fun hp => ox_lss (k := .i64) (a := (IntKind.i64.wrap (((st.length : Nat) : Int) - o.kids))) (b := 0) (if_pos (α := Value) (t := (.int .i64 (IntKind.i64.wrap (((st.length : Nat) : Int) - o.kids)))) (e := undef) hp) rfl ⟨rfl, rfl⟩) ?_
                refine xl_op (P := Try.prog) (some 71) rfl rfl (ox_pick_or (a := ((decide ((o.kids : Int) < 0)))) (b := ((decide ((IntKind.i64.wrap (((st.length : Nat) : Int) - o.kids) : Int) < 0)))) rfl rfl (fun ha => (if_pos (α := Value) (t := (.bool (decide ((IntKind.i64.wrap (((st.length : Nat) : Int) - o.kids) : Int) < 0)))) (e := undef) ha)) ?_)
                refine xl_nil ?_
                refine xc_cond (b := (((decide ((o.kids : Int) < 0))) || ((decide ((IntKind.i64.wrap (((st.length : Nat) : Int) - o.kids) : Int) < 0))))) rfl (fun h8 => ?_) (fun h8 => ?_)
                · skip
                  have h8' := h8
                  try simp only [Bool.or_eq_true, Bool.and_eq_true, decide_eq_true_eq, Bool.or_eq_false_iff, Bool.and_eq_false_iff, decide_eq_false_iff_not, Bool.not_eq_true', Bool.not_eq_false'] at h8'
                  have hfw : o.kids < 0 ∨ ((st.map (skz mm)).length : Int) < o.kids := by rw [List.length_map]; omega
                  refine xc_seq ?_
                  refine xc_region ?_
                  refine xl_op (P := Try.prog) (some 6) rfl rfl (ox_assign (v := (.pointer none)) rfl ?_)
                  refine xl_op (P := Try.prog) (some 7) rfl rfl (ox_assign (v := (.int .i64 150)) rfl ?_)
                  refine xl_nil ?_
                  refine xc_ret ?_
                  change leaves _ _ _ _ _ _ _
                  refine leaves_nil (n := 100) (rs := [.tmp 6, .tmp 7]) (vs := [(.pointer none), (.int .i64 150)]) rfl ⟨⟨by decide, rfl⟩, ⟨by decide, rfl⟩, trivial⟩ ?_
                  have q23 := ((blk_s_f1.ext e2).keep1 e3 ((blk_s_f1.ext e2).ne b1 (by decide)))
                  exact ⟨none, 150, _, rfl, by rw [aEnd_err hlong (aRun_err ho hrun (aStep_few hrt hd1 hd2 hfw))]; exact ⟨rfl, rfl⟩, ((q23.ext e4).ext e5), by omega, by omega, (Chg.ext (Chg.ext (Chg.chg1 (Chg.ext c_f1 e2) e3 (by first | (left; rfl) | (right; omega))) e4) e5)⟩
                · skip
                  have h8' := h8
                  try simp only [Bool.or_eq_true, Bool.and_eq_true, decide_eq_true_eq, Bool.or_eq_false_iff, Bool.and_eq_false_iff, decide_eq_false_iff_not, Bool.not_eq_true', Bool.not_eq_false'] at h8'
                  have hfw : ¬ (o.kids < 0 ∨ ((st.map (skz mm)).length : Int) < o.kids) := by rw [List.length_map]; omega
                  have q24 := ((o_f1.ext e2).keep1 e3 (fun k hk => (o_f1.ext e2).ne_blk b1 (by decide) k hk))
                  have hcap := own_cap ((q24.ext e4).ext e5)
                  have hml : (st.map (skz mm)).length = st.length := List.length_map _
                  obtain ⟨q, hq⟩ : ∃ q : Nat, q = st.length - o.kids.toNat := ⟨_, rfl⟩
                  have hqs : q ≤ st.length := by omega
                  have hqm : q = (st.map (skz mm)).length - o.kids.toNat := by rw [List.length_map]; exact hq
                  refine xc_skip ?_
                  refine xc_seq ?_
                  refine xc_regionE [8] (fun W_ => Chg (fun _ => False) w6 W_) hmix ?_
                  intro w12 e11 z6
                  have hS3 : Chg (fun _ => False) w6 w12 := Ext.to e11
                  refine xd_pure 0 (some 73) rfl rfl (by kernel_rfl) (v := (.pointer (some ⟨s, 0, none⟩))) (.inl ⟨rfl, fun W_ hW_ => ox_move (v := (.pointer (some ⟨s, 0, none⟩))) g0_f1 ⟨rfl, rfl⟩⟩) ?_
                  refine xd_pure 1 (some 74) rfl rfl (by kernel_rfl) (v := (.pointer (some ⟨w2.heap.size, 2, none⟩))) (.inl ⟨rfl, fun W_ hW_ => ox_fieldAddr (b := w2.heap.size) (o := 0) tF_88_2 rfl ⟨rfl, rfl⟩⟩) ?_
                  refine xd_take 2 (some 75) rfl rfl (by kernel_rfl) (v := (.int .i64 o.kind)) (.inl ⟨rfl, fun W_ hW_ => ox_load (v := (.int .i64 o.kind)) tA_3 rfl ((((b2.ext e4).ext e5).ext hW_).cell rfl) ⟨rfl, rfl⟩⟩) hS3 ?_
                  refine xd_pure 3 (some 76) rfl rfl (by kernel_rfl) (v := (.pointer (some ⟨w2.heap.size, 3, none⟩))) (.inl ⟨rfl, fun W_ hW_ => ox_fieldAddr (b := w2.heap.size) (o := 0) tF_88_3 rfl ⟨rfl, rfl⟩⟩) ?_
                  refine xd_take 4 (some 77) rfl rfl (by kernel_rfl) (v := (.int .i64 o.n)) (.inl ⟨rfl, fun W_ hW_ => ox_load (v := (.int .i64 o.n)) tA_3 rfl ((((b2.ext e4).ext e5).ext hW_).cell rfl) ⟨rfl, rfl⟩⟩) hS3 ?_
                  refine xd_pure 5 (some 78) rfl rfl (by kernel_rfl) (v := (.slice Ao st.length co)) (.inl ⟨rfl, fun W_ hW_ => ox_move (v := (.slice Ao st.length co)) g9_f1 ⟨rfl, rfl⟩⟩) ?_
                  refine xd_pure 6 (some 79) rfl rfl (by kernel_rfl) (v := (.int .i64 (IntKind.i64.wrap (((st.length : Nat) : Int) - o.kids)))) (.inl ⟨rfl, fun W_ hW_ => ox_move (v := (.int .i64 (IntKind.i64.wrap (((st.length : Nat) : Int) - o.kids)))) rfl ⟨rfl, rfl⟩⟩) ?_
                  refine xd_pure 7 (some 80) rfl rfl (by kernel_rfl) (v := (.slice ((sfA Ao co q 1)) ((st.length - q)) ((co - q)))) (.inl ⟨rfl, fun W_ hW_ => ox_sliceFromV (A := Ao) (n := st.length) (cp := co) (i := (IntKind.i64.wrap (((st.length : Nat) : Int) - o.kids))) q tE_28 rfl rfl (by omega) (by omega) ⟨rfl, rfl⟩⟩) ?_
                  have q25 := ((blk_s_f1.ext e2).keep1 e3 ((blk_s_f1.ext e2).ne b1 (by decide)))
                  have hlto := ((((q24.ext e4).ext e5).ext e11)).lt
                  have hrw := RowA.from (n := st.length) (cp := co) (sz := 1) q hqs hcap (Own.rowO (((q24.ext e4).ext e5).ext e11)) (by simp)
                  rw [Nat.mul_one, ← List.map_drop] at hrw
                  have q26 := (PNL.keep e3 (PNL.ext pn_f1 e2) (fun b hb hh => PNL.off b1 (by decide) (by decide) (PNL.ext pn_f1 e2) b hb hh))
                  have q27 := (PNL.ext (PNL.ext (PNL.ext q26 e4) e5) e11)
                  refine xd_one 8 (some 81) rfl rfl (by kernel_rfl) rfl (ox_callE (al := [(.pointer (some ⟨s, 0, none⟩)), (.int .i64 o.kind), (.int .i64 o.n), (.slice ((sfA Ao co q 1)) ((st.length - q)) ((co - q)))]) pf_45 rfl (ret_mono ((by have h := make3_calls s cq o.kind o.n (st.drop q) (sfA Ao co q 1) (co - q) w12 (((q25.ext e4).ext e5).ext e11) (by omega) (PNL_of fun y hy => PNL_mem q27 (List.mem_of_mem_drop hy)) hrw (sfA_cap (Own.cap0 (((q24.ext e4).ext e5).ext e11))) (fun y hy => (hst y (List.mem_of_mem_drop hy)).1) (by rw [List.length_drop]; omega); rw [List.length_drop] at h; exact h)) ?_))
                  rintro _ w13 ⟨o14, er, cn9, rfl, hs1, hcn9, hm1, hm0, e12⟩
                  have he12 := e12.size
                  refine ⟨.inl (by decide), ?_⟩
                  refine xd_pure 9 (some 72) rfl rfl (by kernel_rfl) (v := (.tuple #[(.pointer o14), (.int .i64 er)])) (.inl ⟨rfl, fun W_ hW_ => ox_move (v := (.tuple #[(.pointer o14), (.int .i64 er)])) rfl ⟨rfl, rfl⟩⟩) ?_
                  refine xd_pure 10 (some 82) rfl rfl (by kernel_rfl) (v := (.pointer o14)) (.inl ⟨rfl, fun W_ hW_ => ox_extract (vs := #[(.pointer o14), (.int .i64 er)]) (v := (.pointer o14)) rfl rfl ⟨rfl, rfl⟩⟩) ?_
                  refine xd_pure 11 (some 83) rfl rfl (by kernel_rfl) (v := (.int .i64 er)) (.inl ⟨rfl, fun W_ hW_ => ox_extract (vs := #[(.pointer o14), (.int .i64 er)]) (v := (.int .i64 er)) rfl rfl ⟨rfl, rfl⟩⟩) ?_
                  refine xd_pure 12 (some 15) rfl rfl (by kernel_rfl) (v := (.pointer o14)) (.inl ⟨rfl, fun W_ hW_ => ox_assign (v := (.pointer o14)) rfl ⟨rfl, rfl⟩⟩) ?_
                  refine xd_pure 13 (some 16) rfl rfl (by kernel_rfl) (v := (.int .i64 er)) (.inl ⟨rfl, fun W_ hW_ => ox_assign (v := (.int .i64 er)) rfl ⟨rfl, rfl⟩⟩) ?_
                  refine xd_done (by kernel_rfl) ?_ _
                  refine xc_seq ?_
                  refine xc_seq ?_
                  refine xc_region ?_
                  refine xl_op (P := Try.prog) (some 84) rfl rfl (ox_move (v := (.int .i64 er)) rfl ?_)
                  refine xl_op (P := Try.prog) (some 85) rfl rfl (ox_neq (k := .i64) (a := er) (b := 0) rfl rfl ?_)
                  refine xl_nil ?_
                  refine xc_if (p := (er : Int) ≠ 0) rfl (fun h9 => ?_) (fun h9 => ?_)
                  · skip
                    have her := hm1 h9
                    clear hm0 hm1
                    refine xc_seq ?_
                    refine xc_region ?_
                    refine xl_op (P := Try.prog) (some 86) rfl rfl (ox_move (v := (.int .i64 er)) rfl ?_)
                    refine xl_op (P := Try.prog) (some 6) rfl rfl (ox_assign (v := (.pointer none)) rfl ?_)
                    refine xl_op (P := Try.prog) (some 7) rfl rfl (ox_assign (v := (.int .i64 er)) rfl ?_)
                    refine xl_nil ?_
                    refine xc_ret ?_
                    change leaves _ _ _ _ _ _ _
                    refine leaves_nil (n := 100) (rs := [.tmp 6, .tmp 7]) (vs := [(.pointer none), (.int .i64 er)]) rfl ⟨⟨by decide, rfl⟩, ⟨by decide, rfl⟩, trivial⟩ ?_
                    rcases her with ⟨hb9, _, rfl⟩ | ⟨hb9, hz9, _, rfl⟩
                    · exact ⟨none, 101, _, rfl, by rw [aEnd_err hlong (aRun_err ho hrun (aStep_bad hrt hd1 hd2 hfw hb9))]; exact ⟨rfl, rfl⟩, hs1, by omega, by omega, (Chg.chg1 (Chg.ext (Chg.ext (Chg.ext (Chg.chg1 (Chg.ext c_f1 e2) e3 (by first | (left; rfl) | (right; omega))) e4) e5) e11) e12 (by first | (left; rfl) | (right; omega)))⟩
                    · exact ⟨none, 6, _, rfl, by rw [aEnd_err hlong (aRun_err ho hrun (aStep_full hrt hd1 hd2 hfw hb9 q hqm (by rw [← List.map_drop, szL_skz]; exact hz9)))]; exact ⟨rfl, rfl⟩, hs1, by omega, by omega, (Chg.chg1 (Chg.ext (Chg.ext (Chg.ext (Chg.chg1 (Chg.ext c_f1 e2) e3 (by first | (left; rfl) | (right; omega))) e4) e5) e11) e12 (by first | (left; rfl) | (right; omega)))⟩
                  · skip
                    have her : er = 0 := by omega
                    obtain ⟨hnb, hz5, hcn5, bn, kb, kcb, rfl, hbn, hkn, hpx⟩ := hm0 her
                    clear hm0 hm1
                    refine xc_skip ?_
                    refine xc_region ?_
                    refine xl_op (P := Try.prog) (some 87) rfl rfl (ox_move (v := (.slice Ao st.length co)) g9_f1 ?_)
                    refine xl_op (P := Try.prog) (some 88) rfl rfl (ox_move (v := (.int .i64 (IntKind.i64.wrap (((st.length : Nat) : Int) - o.kids)))) rfl ?_)
                    refine xl_op (P := Try.prog) (some 89) rfl rfl (ox_sliceToN (A := Ao) (cp := co) (i := (IntKind.i64.wrap (((st.length : Nat) : Int) - o.kids))) q tE_28 rfl rfl (by omega) (by omega) (by omega) ?_)
                    refine xl_op (P := Try.prog) (some 90) rfl rfl (ox_move (v := (.pointer (some ⟨bn, 0, none⟩))) rfl ?_)
                    refine xl_op (P := Try.prog) (some 91) rfl rfl (ox_mkSlice (ps := [(0, (.pointer (some ⟨bn, 0, none⟩)))]) (zs := #[(.pointer none)]) (cs := #[(.pointer (some ⟨bn, 0, none⟩))]) tE_28 rfl (by decide) (by kernel_rfl) (by kernel_rfl) ?_)
                    intro w14 e13 z7 b5
                    replace b5 : Blk w14 w13.heap.size #[(.pointer (some ⟨bn, 0, none⟩))] 36 := b5
                    have q28 := ((((q24.ext e4).ext e5).ext e11).keep1 e12 (fun k hk => (((q24.ext e4).ext e5).ext e11).ne_blk (((q25.ext e4).ext e5).ext e11) (by decide) k hk))
                    have hot := ((q28.ext e13)).take (m := q) (by omega)
                    rw [Nat.mul_one, ← List.map_take] at hot
                    have nbt : ∀ b ∈ blocksL (st.take q), ((.slice Ao q co) : Value).ownBlock ≠ some b := fun b hb hh => nb_f1 b (blocksL_sub (fun y hy => List.mem_of_mem_take hy) hb) (ownBlock_len hh)
                    have lot : ∀ k, ((.slice Ao q co) : Value).ownBlock = some k → w.heap.size ≤ k := fun k hk => lo_f1 k (ownBlock_len hk)
                    have hun : ∀ b ∈ blocks (T.mk bn kb kcb (cq + 1) o.kind o.n lf0 (st.drop q)), ((.slice Ao q co) : Value).ownBlock ≠ some b := fun b hb hh => (nb_new hbn hkn hlto (fun y hy => List.mem_of_mem_drop hy) nb_f1) b hb (ownBlock_len hh)
                    have q29 := (PNL.keep e12 q27 (fun b hb hh => PNL.off (((q25.ext e4).ext e5).ext e11) (by decide) (by decide) q27 b hb hh))
                    have hlA := PNL.lt (PNL.ext q29 e13)
                    have hlX := PN.lt (PN.ext hpx e13)
                    refine xl_op (P := Try.prog) (some 92) rfl rfl (ox_append (n := q) (g := w13.heap.size) (o := 0) (m := 1) (xs := (((st.take q).map T.ptr))) (news := ([(.pointer (some ⟨bn, 0, none⟩))])) rfl tE_28 rfl (by decide) (v := (.slice Ao q co)) rfl rfl hot rfl b5.all rfl (by omega) (by omega) ?_)
                    intro v3 w15 o3 e14 at3 nil3
                    have he14 := e14.size
                    obtain ⟨A3, c3, rfl, hc3⟩ := o3.shape
                    have low3 : ∀ _k, (Value.slice A3 (q + 1) c3).ownBlock = some _k → w.heap.size ≤ _k := fun _k _h => by rcases at3 with _e | _e <;> rw [_e] at _h; exact lot _k _h; exact (by cases _h; omega)
                    have nb2 := nb_snoc (l := st.take q) at3 nbt hun (fun b hb => hlA b (blocksL_sub (fun y hy => List.mem_of_mem_take hy) hb)) hlX
                    refine xl_op (P := Try.prog) (some 9) rfl rfl (ox_assign (v := (.slice A3 (q + 1) c3)) rfl ?_)
                    refine xl_nil ?_
                    refine xc_region ?_
                    refine xl_op (P := Try.prog) (some 93) rfl rfl (ox_add64 (a := ((i : Nat))) (b := 1) g24_f1 rfl (by omega) ?_)
                    refine xl_op (P := Try.prog) (some 24) rfl rfl (ox_move (v := (.int .i64 ((i : Nat) + 1))) rfl ?_)
                    refine xl_nil ?_
                    have ho9 := o3
                    have q30 := (PNL.keep e14 (PNL.ext q29 e13) (fun b hb hh => nb_f1 b hb (ownBlock_len hh)))
                    have hp9 := q30
                    have q31 := (PN.keep e14 (PN.ext hpx e13) (fun b hb hh => hun b hb hh))
                    have hx9 := q31
                    have q32 := ((map_mb_f1.ext e2).keep1 e3 (fun _h => (map_mb_f1.ext e2).ne_blk b1 _h))
                    have q33 := ((((q32.ext e4).ext e5).ext e11).keep1 e12 (fun _h => (((q32.ext e4).ext e5).ext e11).ne_blk (((q25.ext e4).ext e5).ext e11) _h))
                    have q34 := ((q33.ext e13).keep e14 (fun _h => by rcases hot.form with ⟨_e, _⟩ | ⟨_g, _c, _cur, _e, _hb, _⟩ <;> rw [_e] at _h <;> simp [Value.ownBlock] at _h; exact (q33.ext e13).ne_blk _hb _h.symm))
                    have hm9 := q34
                    have q35 := ((hs1.ext e13).keep e14 (fun _h => hot.ne_blk (hs1.ext e13) (by decide) _ _h rfl))
                    have hs9 := q35
                    have hsz0 := e2.size
                    have hsz1 := e3.size
                    have hsz2 := e4.size
                    have hsz3 := e5.size
                    have hsz4 := e11.size
                    have hsz5 := e12.size
                    have hsz6 := e13.size
                    have hsz7 := e14.size
                    have hl9 : ((st.take q) ++ [(T.mk bn kb kcb (cq + 1) o.kind o.n lf0 (st.drop q))]).length = q + 1 := by simp; omega
                    exact ⟨rfl, l.length - (i + 1), by omega, i + 1, ((st.take q) ++ [(T.mk bn kb kcb (cq + 1) o.kind o.n lf0 (st.drop q))]), A3, c3, cn9, by omega, by omega, by rw [hl9]; omega, fun y hy9 => by rcases List.mem_append.1 hy9 with h | h; exact hst y (List.mem_of_mem_take h); simp at h; subst h; exact ⟨by simp only [sz]; omega, by simp only [WF]; exact ⟨fun h => absurd h (by unfold badKind at hnb; omega), fun _ => by unfold badKind at hnb; omega, WFL_of fun t ht => (hst t (List.mem_of_mem_drop ht)).2.1⟩, fun z hz => by simp only [nodes, List.mem_cons] at hz; rcases hz with rfl | hz; (simp only [T.id]; omega); (obtain ⟨t, ht, hz2⟩ := nodesL_mem hz; exact (hst t (List.mem_of_mem_drop ht)).2.2 z hz2)⟩, by omega, by have h9 := aRun_on ho hrun (aStep_make hrt hd1 hd2 hfw hnb q hqm (by rw [← List.map_drop, szL_skz]; omega)); rw [h9, List.map_append]; simp [skz_mk (show mm < cq + 1 by omega), List.map_drop, List.map_take], g0_f1, g1_f1, g8_f1, (by rw [hl9]; rfl), g22_f1, g23_f1, (by first | exact rfl | exact (congrArg (Value.int .i64) (by omega))), (by rw [hl9, List.map_append]; exact ho9), (PNL_snoc (PNL_of fun y hy9 => PNL_mem hp9 (List.mem_of_mem_take hy9)) hx9), hm9, hs9, (by rw [hl9]; exact nb2), (by rw [hl9]; exact low3), (Chg.trans (Chg.ext (Chg.chg1 (Chg.ext (Chg.ext (Chg.ext (Chg.chg1 (Chg.ext c_f1 e2) e3 (by first | (left; rfl) | (right; omega))) e4) e5) e11) e12 (by first | (left; rfl) | (right; omega))) e13) e14 (fun b hb hl => absurd hl (by have := lot b hb; omega)))⟩
              · skip
                have hd3 : o.d ≠ 3 := h7
                exact absurd (rightD_three hrt hd1 hd2) hd3
      · skip
        have hiq : l.length ≤ i := by omega
        refine xc_exit ?_
        refine xc_seq ?_
        refine xc_seq ?_
        refine xc_region ?_
        refine xl_op (P := Try.prog) (some 94) rfl rfl (ox_move (v := (.slice Ao st.length co)) g9_f1 ?_)
        refine xl_op (P := Try.prog) (some 95) rfl rfl (ox_len (A := Ao) (n := st.length) (cp := co) rfl tU_28 rfl ?_)
        refine xl_op (P := Try.prog) (some 96) rfl rfl (ox_neq (k := .i64) (a := (((st.length : Nat) : Int))) (b := 1) rfl rfl ?_)
        refine xl_nil ?_
        refine xc_if (p := (((st.length : Nat) : Int) : Int) ≠ 1) rfl (fun h10 => ?_) (fun h10 => ?_)
        · skip
          have hdone := aRun_done hiq hrun
          have hmn : (st.map (skz mm)).length ≠ 1 := by rw [List.length_map]; omega
          refine xc_seq ?_
          refine xc_region ?_
          refine xl_op (P := Try.prog) (some 6) rfl rfl (ox_assign (v := (.pointer none)) rfl ?_)
          refine xl_op (P := Try.prog) (some 7) rfl rfl (ox_assign (v := (.int .i64 150)) rfl ?_)
          refine xl_nil ?_
          refine xc_ret ?_
          change leaves _ _ _ _ _ _ _
          refine leaves_nil (n := 100) (rs := [.tmp 6, .tmp 7]) (vs := [(.pointer none), (.int .i64 150)]) rfl ⟨⟨by decide, rfl⟩, ⟨by decide, rfl⟩, trivial⟩ ?_
          exact ⟨none, 150, _, rfl, by rw [aEnd_many hlong hdone hmn]; exact ⟨rfl, rfl⟩, blk_s_f1, by omega, by omega, c_f1⟩
        · skip
          have hdone := aRun_done hiq hrun
          obtain ⟨x, hstx⟩ : ∃ x, st = [x] := List.length_eq_one_iff.1 (by omega)
          obtain ⟨gx, cx, heqx, _⟩ := (o_f1).some_of (by omega)
          simp only [Value.slice.injEq, true_and] at heqx
          obtain ⟨rfl, rfl⟩ := heqx
          have hcx : w2.cell? ⟨gx, 0, none⟩ = some x.ptr := ((o_f1).cells (o := 0) (vs := [x.ptr]) (by intro j v hj; rw [hstx]; simpa using hj)).1
          refine xc_skip ?_
          refine xc_seq ?_
          refine xc_region ?_
          refine xl_op (P := Try.prog) (some 97) rfl rfl (ox_move (v := (.slice (some ⟨gx, 0, none⟩) st.length co)) g9_f1 ?_)
          refine xl_op (P := Try.prog) (some 98) rfl rfl (ox_indexAddr (b := gx) (o := 0) (i := 0) tE_28 rfl rfl (by omega) (by omega) ?_)
          refine xl_op (P := Try.prog) (some 99) rfl rfl (ox_load (v := (.pointer (some ⟨x.b, 0, none⟩))) tA_36 rfl (by simpa [T.ptr] using hcx) ?_)
          refine xl_op (P := Try.prog) (some 6) rfl rfl (ox_assign (v := (.pointer (some ⟨x.b, 0, none⟩))) rfl ?_)
          refine xl_op (P := Try.prog) (some 7) rfl rfl (ox_assign (v := (.int .i64 0)) rfl ?_)
          refine xl_nil ?_
          refine xc_ret ?_
          change leaves _ _ _ _ _ _ _
          refine leaves_nil (n := 100) (rs := [.tmp 6, .tmp 7]) (vs := [(.pointer (some ⟨x.b, 0, none⟩)), (.int .i64 0)]) rfl ⟨⟨by decide, rfl⟩, ⟨by decide, rfl⟩, trivial⟩ ?_
          have hp9 := pn_f1
          have hx9 := hst x (by rw [hstx]; simp)
          exact ⟨some ⟨x.b, 0, none⟩, 0, _, rfl, by rw [aEnd_one hlong (x := skz mm x) (by rw [hdone, hstx]; rfl)]; exact ⟨rfl, x, rfl, (by rw [hstx] at hp9; exact hp9.1), rfl, hx9⟩, blk_s_f1, by omega, by omega, c_f1⟩

end Go.Proofs.Ythhbnodnpajljaa
