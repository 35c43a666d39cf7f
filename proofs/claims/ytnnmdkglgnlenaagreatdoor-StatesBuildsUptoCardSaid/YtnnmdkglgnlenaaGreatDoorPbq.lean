/-
  Part 17 of the proof: texts Wc Wd We Wf Wg Wh Wj Wk Uj Tx Tz Ud Ue. No conditions.
-/
import Derived.Test.YtnnmdkglgnlenaaGreatDoorRows
import Derived.Test.YtnnmdkglgnlenaaGreatDoorPbc
import Derived.Test.YtnnmdkglgnlenaaGreatDoorPbe
import Derived.Test.YtnnmdkglgnlenaaGreatDoorPbf
import Derived.Test.YtnnmdkglgnlenaaGreatDoorPbh
import Derived.Test.YtnnmdkglgnlenaaGreatDoorPbm
import Derived.Test.YtnnmdkglgnlenaaGreatDoorPbp
set_option linter.unusedVariables false
set_option linter.unusedSimpArgs false
set_option linter.unusedSectionVars false
set_option maxRecDepth 100000
set_option maxHeartbeats 4000000
namespace Go.Proofs.YtnnmdkglgnlenaaGreatDoor
open Go Go.RowKit Go.Vx
theorem mu_lt {c c1 m : Nat} {g g1 : Bool} (hm : m = 2 * c + g.toNat) (hg : g = true) (h : c1 ≤ c ∧ (g1 = true → c1 < c)) : 2 * c1 + g1.toNat < m := by
  subst hg
  cases g1
  · simp at hm ⊢; omega
  · have := h.2 rfl; simp at hm ⊢; omega
structure RI (g : GD) (c0 : Nat) (a b : List Bool) (ag : Bool) (i : Nat) : Prop where
  sa : subB a (reachG g).1
  sb : subB b (reachG g).2
  st : a[g.start.toNat]! = true
  cnt : a.count false ≤ c0 ∧ (ag = true → a.count false < c0)
  cl : ag = false → ∀ p ∈ g.prods.take i, a[p.1.toNat]! = true → ∀ x ∈ p.2, okR (a, b) x
def RJ (g : GD) (c0 : Nat) (a b : List Bool) (ag : Bool) (i : Nat) (l : List Sym) (k : Nat) : Prop := RI g c0 a b ag i ∧ (ag = false → ∀ x ∈ l.take k, okR (a, b) x)
structure RO (g : GD) (a b : List Bool) (ag : Bool) : Prop where
  sa : subB a (reachG g).1
  sb : subB b (reachG g).2
  st : a[g.start.toNat]! = true
  cl : ag = false → closR g (a, b)
section
variable {g : GD} {c0 i k : Nat} {a b : List Bool} {ag : Bool} {l : List Sym} {p : P2} {x : Sym}
theorem RO.start (hG : GoodG g) {m : Nat} : RO g ((List.replicate g.names false).set g.start.toNat true) (List.replicate m false) true := by
  have h := reachG_fix hG
  exact ⟨subB.zero.set h.2, subB.zero, bang_set.2 (.inr ⟨rfl, by have := hG.1; rw [List.length_replicate]; omega⟩), fun h => by cases h⟩
theorem RI.start (h : RO g a b ag) : RI g (a.count false) a b false 0 := ⟨h.sa, h.sb, h.st, ⟨Nat.le_refl _, fun h => by cases h⟩, fun _ p hp => by simp at hp⟩
theorem RO.next (h : RI g c0 a b ag i) (hi : g.prods.length ≤ i) : RO g a b ag := ⟨h.sa, h.sb, h.st, fun h9 p hp => h.cl h9 p (by rw [List.take_of_length_le hi]; exact hp)⟩
theorem RO.done (hG : GoodG g) (h : RO g a b false) (h1 : a.length = g.names) (h2 : b.length = g.triv.length) : a = (reachG g).1 ∧ b = (reachG g).2 := by
  have h9 := reachG_eq hG (h := (a, b)) h1 h2 ⟨h.sa, h.sb⟩ (h.cl rfl) h.st
  exact ⟨congrArg Prod.fst h9, congrArg Prod.snd h9⟩
theorem RJ.start (h : RI g c0 a b ag i) : RJ g c0 a b ag i l 0 := ⟨h, fun _ x hx => by simp at hx⟩
theorem take_succ_mem {α : Type} {l : List α} {k : Nat} {x y : α} (hx : l[k]? = some x) (h : y ∈ l.take (k + 1)) : y ∈ l.take k ∨ y = x := by
  rw [List.take_add_one, hx] at h
  simpa using h
theorem okR.mono {a' b' : List Bool} (h : okR (a, b) x) (ha : subB a a') (hb : subB b b') : okR (a', b') x := ⟨fun hk => hb _ (h.1 hk), fun hk => ha _ (h.2 hk)⟩
theorem RJ.skip (h : RJ g c0 a b ag i l k) (hx : l[k]? = some x) (h1 : ¬ x.kind = 1) (h3 : x.kind = 3 → a[x.n.toNat]! = true) : RJ g c0 a b ag i l (k + 1) :=
  ⟨h.1, fun h9 y hy => (take_succ_mem hx hy).elim (h.2 h9 y) fun e => by rw [e]; exact ⟨fun hk => absurd hk h1, h3⟩⟩
theorem RJ.name (hG : GoodG g) (h : RJ g c0 a b ag i l k) (hp : g.prods[i]? = some p) (hl : l = p.2) (hlv : a[p.1.toNat]! = true) (hx : l[k]? = some x) (hk : x.kind = 3) (hv : a[x.n.toNat]! = false) (hn : x.n.toNat < a.length) : RJ g c0 (a.set x.n.toNat true) b true i l (k + 1) := by
  have hT := (reachG_fix hG).1 p (List.mem_of_getElem? hp) (h.1.sa _ hlv) x (by rw [← hl]; exact List.mem_of_getElem? hx)
  have hc := count_set hv hn
  have h1 := h.1.cnt.1
  exact ⟨⟨h.1.sa.set (hT.2 hk), h.1.sb, bang_set.2 (.inl h.1.st), ⟨by omega, fun _ => by omega⟩, fun h9 => by cases h9⟩, fun h9 => by cases h9⟩
theorem RJ.term (hG : GoodG g) (h : RJ g c0 a b ag i l k) (hp : g.prods[i]? = some p) (hl : l = p.2) (hlv : a[p.1.toNat]! = true) (hx : l[k]? = some x) (hk : x.kind = 1) (hn : x.n.toNat < b.length) : RJ g c0 a (b.set x.n.toNat true) ag i l (k + 1) := by
  have hT := (reachG_fix hG).1 p (List.mem_of_getElem? hp) (h.1.sa _ hlv) x (by rw [← hl]; exact List.mem_of_getElem? hx)
  refine ⟨⟨h.1.sa, h.1.sb.set (hT.1 hk), h.1.st, h.1.cnt, fun h9 q hq hv y hy => (h.1.cl h9 q hq hv y hy).mono (fun _ h => h) subB.grow⟩, fun h9 y hy => (take_succ_mem hx hy).elim (fun hy => (h.2 h9 y hy).mono (fun _ h => h) subB.grow) fun e => ?_⟩
  rw [e]
  exact ⟨fun _ => bang_set.2 (.inr ⟨rfl, hn⟩), fun h3 => by omega⟩
theorem RJ.done (h : RJ g c0 a b ag i l k) (hp : g.prods[i]? = some p) (hl : l = p.2) (he : l.length ≤ k ∨ a[p.1.toNat]! = false) : RI g c0 a b ag (i + 1) := by
  refine ⟨h.1.sa, h.1.sb, h.1.st, h.1.cnt, fun h9 q hq hv x hx => (take_succ_mem hp hq).elim (fun hq => h.1.cl h9 q hq hv x hx) fun e => ?_⟩
  rw [e] at hv hx
  rcases he with he | he
  · exact h.2 h9 x (by rw [List.take_of_length_le he, hl]; exact hx)
  · rw [hv] at he; cases he
end
theorem reachedR_calls (s : SP) (w : World) (hS : SpR w s) (hG : GoodG s.g) :
    Calls Tryz.prog 105 #[(.agg #[(.slice s.lA s.lex.length s.lc), (.slice s.nA s.names.length s.nc), (.int .i64 s.start), (.slice s.pA s.prods.length s.pc)])] w (Ret (fun v w' => v = .tuple #[.int .i64 (reachedE s.g).2, .int .i64 (reachedE s.g).1] ∧ Ext w w')) := by
 have hfp := hS.fp.by; have hfl := hS.fl.by; have hfn := hS.fn.by; have hgs : 0 ≤ s.start ∧ s.start < (s.names.length : Int) := hG.1
 refine calls_y (n := 112) Tryz.func105 ?_
 refine go ?_
 refine y_bx ?_
 intro w1 e1 z1 b1
 refine go ?_
 refine y_ld b1 ?_
 refine go ?_
 refine yOp (ox_makeD (n := s.names.length) (l := ((List.replicate s.names.length false))) (cs := bools) tE_144.h rfl rfl (by omega) (by omega) (made_bools _) ?_)
 intro A1 w2 o1 e2 lo1
 have he2 := e2.size
 refine go ?_
 refine y_ld (b1.ext e2) ?_
 refine go ?_
 refine yOp (ox_makeD (n := s.lex.length) (l := ((List.replicate s.lex.length false))) (cs := bools) tE_144.h rfl rfl (by omega) (by omega) (made_bools _) ?_)
 intro A2 w3 o2 e3 lo2
 have he3 := e3.size
 have hne : ∀ k, ((.slice A1 s.names.length s.names.length) : Value).ownBlock = some k → ((.slice A2 s.lex.length s.lex.length) : Value).ownBlock = some k → False := fun k h1 h2 => by have _a := o1.lt k h1; have _b := lo2 k h2; omega
 refine go ?_
 refine y_ld ((b1.ext e2).ext e3) ?_
 obtain ⟨x_1, g_1, hx_1⟩ := own_may (A := A1) s.start.toNat bools_len (by decide) (o1.ext e3)
 obtain ⟨hx_2, hA_1, hc_1⟩ := hx_1 oM
 refine y_ix s.start.toNat hA_1 ?_
 refine yNp (ox_stE (i := s.start.toNat) (off := 0) (vs := [(.bool true)]) (b := (true : Bool)) bools_len tS_4.h hA_1 rfl (v := (.bool true)) rfl rfl rfl rfl (o1.ext e3) hx_2 rfl (by decide) (by omega) ?_)
 intro w4 e4 z4 o3
 have q1 := (o2.keep e4 (fun _k _hk _hh => hne _k _hh _hk))
 refine go ?_
 refine xc_loopN (fun m_ f_ Wx => ∃ (ag : Bool) (ra : List Bool) (rb : List Bool), m_ = 2 * ra.count false + ag.toNat ∧ (RO s.g ra rb ag) ∧ f_ 1 = (.pointer (some ⟨w.heap.size, 0, none⟩)) ∧ f_ 2 = (.int .i64 0) ∧ f_ 3 = (.int .i64 0) ∧ f_ 4 = (.slice A1 s.names.length s.names.length) ∧ f_ 5 = (.slice A2 s.lex.length s.lex.length) ∧ f_ 6 = (.bool ag) ∧ Vx.Own Wx 4 1 (.slice A1 s.names.length s.names.length) s.names.length (ra.flatMap bools) ∧ Vx.Own Wx 4 1 (.slice A2 s.lex.length s.lex.length) s.lex.length (rb.flatMap bools) ∧ Chg (fun b => ((.slice A1 s.names.length s.names.length) : Value).ownBlock = some b ∨ ((.slice A2 s.lex.length s.lex.length) : Value).ownBlock = some b) w4 Wx) (2 * ((((List.replicate s.names.length false)).set s.start.toNat true)).count false + 1) ?_ ?_
 ·
  exact ⟨true, (((List.replicate s.names.length false)).set s.start.toNat true), (List.replicate s.lex.length false), (by first | rfl | omega | simp), (RO.start hG), rfl, rfl, rfl, rfl, rfl, rfl, o3, q1, (Chg.refl _ _)⟩
 ·
  rintro m_ f1 w5 ⟨ag, ra, rb, hm_f1, hRO, g1_f1, g2_f1, g3_f1, g4_f1, g5_f1, g6_f1, o0_f1, o1_f1, x1⟩
  have hx1 := x1.size
  have hl_ra : ra.length = s.names.length := by have _q := (o0_f1).len; rw [fm_len bools_len] at _q; omega
  have hl_rb : rb.length = s.lex.length := by have _q := (o1_f1).len; rw [fm_len bools_len] at _q; omega
  rw [← usf g1_f1, ← usf g2_f1, ← usf g3_f1, ← usf g4_f1, ← usf g5_f1, ← usf g6_f1]
  refine go ?_
  refine xc_cond (b := ag) rfl (fun h1 => ?_) (fun h1 => ?_)
  ·
   have h1' := bS h1
   have hag9 : ag = true := h1
   refine go ?_
   refine xc_loopN (fun m_ f_ Wx => ∃ (i : Nat) (ag1 : Bool) (ra1 : List Bool) (rb1 : List Bool), m_ = s.prods.length - i ∧ (i ≤ s.prods.length) ∧ (RI s.g (ra.count false) ra1 rb1 ag1 i) ∧ f_ 1 = (.pointer (some ⟨w.heap.size, 0, none⟩)) ∧ f_ 2 = (.int .i64 0) ∧ f_ 3 = (.int .i64 0) ∧ f_ 4 = (.slice A1 s.names.length s.names.length) ∧ f_ 5 = (.slice A2 s.lex.length s.lex.length) ∧ f_ 25 = (.bool ag) ∧ f_ 7 = (.int .i64 ((i : Nat))) ∧ f_ 6 = (.bool ag1) ∧ Vx.Own Wx 4 1 (.slice A1 s.names.length s.names.length) s.names.length (ra1.flatMap bools) ∧ Vx.Own Wx 4 1 (.slice A2 s.lex.length s.lex.length) s.lex.length (rb1.flatMap bools) ∧ Chg (fun b => ((.slice A1 s.names.length s.names.length) : Value).ownBlock = some b ∨ ((.slice A2 s.lex.length s.lex.length) : Value).ownBlock = some b) w5 Wx) (s.prods.length) ?_ ?_
   ·
    exact ⟨0, false, ra, rb, (by omega), (by omega), (RI.start hRO), rfl, rfl, rfl, rfl, rfl, rfl, vW, rfl, o0_f1, o1_f1, (Chg.refl _ _)⟩
   ·
    rintro m_ f2 w6 ⟨i, ag1, ra1, rb1, hm_f2, hi, hR1, g1_f2, g2_f2, g3_f2, g4_f2, g5_f2, g25_f2, g7_f2, g6_f2, o0_f2, o1_f2, x2⟩
    have hx2 := x2.size
    have hl_ra1 : ra1.length = s.names.length := by have _q := (o0_f2).len; rw [fm_len bools_len] at _q; omega
    have hl_rb1 : rb1.length = s.lex.length := by have _q := (o1_f2).len; rw [fm_len bools_len] at _q; omega
    rw [← usf g1_f2, ← usf g2_f2, ← usf g3_f2, ← usf g4_f2, ← usf g5_f2, ← usf g25_f2, ← usf g7_f2, ← usf g6_f2]
    have q2 := (((b1.ext e2).ext e3).keep e4 (fun _h => (o1.ext e3).ne_blk ((b1.ext e2).ext e3) (by decide) _ _h rfl))
    have q3 := (q2.keep x1 (fun hb => hb.elim (fun _h => o3.ne_blk q2 (by decide) _ _h rfl) (fun _h => q1.ne_blk q2 (by decide) _ _h rfl)))
    have q4 := (q3.keep x2 (fun hb => hb.elim (fun _h => o0_f1.ne_blk q3 (by decide) _ _h rfl) (fun _h => o1_f1.ne_blk q3 (by decide) _ _h rfl)))
    refine go ?_
    refine y_ld q4 ?_
    refine go ?_
    refine y_if (fun h2 => ?_) (fun h2 => ?_)
    ·
     refine go ?_
     refine y_ld q4 ?_
     have x3 : Ext w w6 := (Chg.trans (Chg.trans (Chg.trans (Ext.trans (Ext.trans e1 e2) e3) e4 (fun b hb hl => (absurd hl (by have _h := lo1 b hb; omega)))) x1 (fun b hb hl => hb.elim (fun hb => (absurd hl (by have _h := lo1 b hb; omega))) (fun hb => (absurd hl (by have _h := lo2 b hb; omega))))) x2 (fun b hb hl => hb.elim (fun hb => (absurd hl (by have _h := lo1 b hb; omega))) (fun hb => (absurd hl (by have _h := lo2 b hb; omega)))))
     obtain ⟨x_2, g_2, o_2, hx_3⟩ := row_may (A := s.pA) (cs := PD.cs) i PD.len (by decide) (RowA.ext hS.prods x3)
     obtain ⟨hx_4, hA_2, hc_2⟩ := hx_3 oM
     have hfr_x_2 := (hS.fr _ (List.mem_of_getElem? hx_4)).le
     have hgd_x_2 := hG.2 _ (List.mem_of_getElem? (map_get (f := PD.d) hx_4))
     have hgl_x_2 : 0 ≤ x_2.left ∧ x_2.left < (s.names.length : Int) := ⟨hgd_x_2.1, hgd_x_2.2.1⟩
     refine go ?_
     refine y_ix i hA_2 ?_
     refine y_lN (vs := [(.int .i64 x_2.left), (.slice x_2.rA x_2.right.length x_2.rc)]) hc_2 ?_
     refine y_al ?_
     intro w7 e5 z5 b2
     refine y_st b2 ?_
     intro w8 e6 z6 b3
     replace b3 : Blk w8 w6.heap.size #[(.int .i64 x_2.left), (.slice x_2.rA x_2.right.length x_2.rc)] 37 := blk_full b3 rfl
     have q5 := ((o0_f2.ext e5).keep1 e6 (fun k hk => (o0_f2.ext e5).ne_blk b2 (by decide) k hk))
     have q6 := ((o1_f2.ext e5).keep1 e6 (fun k hk => (o1_f2.ext e5).ne_blk b2 (by decide) k hk))
     refine go ?_
     refine xc_loopN (fun m_ f_ Wx => ∃ (k : Nat) (ag2 : Bool) (ra2 : List Bool) (rb2 : List Bool), m_ = x_2.right.length - k ∧ (k ≤ x_2.right.length) ∧ (RJ s.g (ra.count false) ra2 rb2 ag2 i x_2.right k) ∧ f_ 1 = (.pointer (some ⟨w.heap.size, 0, none⟩)) ∧ f_ 2 = (.int .i64 0) ∧ f_ 3 = (.int .i64 0) ∧ f_ 4 = (.slice A1 s.names.length s.names.length) ∧ f_ 5 = (.slice A2 s.lex.length s.lex.length) ∧ f_ 25 = (.bool ag) ∧ f_ 7 = (.int .i64 ((i : Nat))) ∧ f_ 26 = (.int .i64 ((i : Nat))) ∧ f_ 27 = (.pointer (some ⟨w.heap.size, 3, none⟩)) ∧ f_ 28 = (.slice s.pA s.prods.length s.pc) ∧ f_ 29 = (.int .i64 (((s.prods.length : Nat) : Int))) ∧ f_ 30 = (.bool (decide (((i : Nat) : Int) < (((s.prods.length : Nat) : Int))))) ∧ f_ 33 = (.pointer (some ⟨w.heap.size, 3, none⟩)) ∧ f_ 34 = (.slice s.pA s.prods.length s.pc) ∧ f_ 35 = (.int .i64 ((i : Nat))) ∧ f_ 36 = (.pointer (some ⟨g_2, o_2 + i * 2, none⟩)) ∧ f_ 37 = (.agg #[(.int .i64 x_2.left), (.slice x_2.rA x_2.right.length x_2.rc)]) ∧ f_ 8 = (.pointer (some ⟨w6.heap.size, 0, none⟩)) ∧ f_ 9 = (.int .i64 ((k : Nat))) ∧ f_ 6 = (.bool ag2) ∧ Vx.Own Wx 4 1 (.slice A1 s.names.length s.names.length) s.names.length (ra2.flatMap bools) ∧ Vx.Own Wx 4 1 (.slice A2 s.lex.length s.lex.length) s.lex.length (rb2.flatMap bools) ∧ Chg (fun b => ((.slice A1 s.names.length s.names.length) : Value).ownBlock = some b ∨ ((.slice A2 s.lex.length s.lex.length) : Value).ownBlock = some b) w8 Wx) (x_2.right.length) ?_ ?_
     ·
      exact ⟨0, ag1, ra1, rb1, (by omega), (by omega), (RJ.start hR1), rfl, rfl, rfl, rfl, rfl, rfl, rfl, rfl, rfl, rfl, rfl, rfl, rfl, rfl, rfl, rfl, rfl, rfl, vW, rfl, q5, q6, (Chg.refl _ _)⟩
     ·
      rintro m_ f3 w9 ⟨k, ag2, ra2, rb2, hm_f3, hk, hR2, g1_f3, g2_f3, g3_f3, g4_f3, g5_f3, g25_f3, g7_f3, g26_f3, g27_f3, g28_f3, g29_f3, g30_f3, g33_f3, g34_f3, g35_f3, g36_f3, g37_f3, g8_f3, g9_f3, g6_f3, o0_f3, o1_f3, x4⟩
      have hx4 := x4.size
      have hl_ra2 : ra2.length = s.names.length := by have _q := (o0_f3).len; rw [fm_len bools_len] at _q; omega
      have hl_rb2 : rb2.length = s.lex.length := by have _q := (o1_f3).len; rw [fm_len bools_len] at _q; omega
      rw [← usf g1_f3, ← usf g2_f3, ← usf g3_f3, ← usf g4_f3, ← usf g5_f3, ← usf g25_f3, ← usf g7_f3, ← usf g26_f3, ← usf g27_f3, ← usf g28_f3, ← usf g29_f3, ← usf g30_f3, ← usf g33_f3, ← usf g34_f3, ← usf g35_f3, ← usf g36_f3, ← usf g37_f3, ← usf g8_f3, ← usf g9_f3, ← usf g6_f3]
      have q7 := (b3.keep x4 (fun hb => hb.elim (fun _h => q5.ne_blk b3 (by decide) _ _h rfl) (fun _h => q6.ne_blk b3 (by decide) _ _h rfl)))
      refine go ?_
      refine y_ld q7 ?_
      refine go ?_
      by_cases h3 : ((k : Nat) : Int) < (((x_2.right.length : Nat) : Int))
      ·
       refine ysL (s := 43) (bT (decide_eq_true h3)) ?_
       refine go ?_
       refine y_ld q7 ?_
       obtain ⟨x_3, g_3, hx_5⟩ := own_may (A := A1) x_2.left.toNat bools_len (by decide) o0_f3
       obtain ⟨hx_6, hA_3, hc_3⟩ := hx_5 oM
       refine y_ix x_2.left.toNat hA_3 ?_
       refine y_lc (CellsL.at1 hc_3 0 rfl) ?_
       refine go ?_
       refine xc_cond (b := x_3) rfl (fun h4 => ?_) (fun h4 => ?_)
       ·
        have h4' := bS h4
        have hlv9 : ra2[x_2.left.toNat]! = true := by rw [bang_of hx_6]; simp_all
        refine go ?_
        refine y_ld q7 ?_
        have x5 : Ext w w9 := (Chg.trans (Ext.chg1 (Ext.trans x3 e5) e6 (by omega)) x4 (fun b hb hl => hb.elim (fun hb => (absurd hl (by have _h := lo1 b hb; omega))) (fun hb => (absurd hl (by have _h := lo2 b hb; omega)))))
        obtain ⟨x_4, g_4, o_4, hx_7⟩ := row_may (A := x_2.rA) (cs := Sym.cs) k Sym.len (by decide) (RowA.ext ((hS.right _ (List.mem_of_getElem? hx_4))) x5)
        obtain ⟨hx_8, hA_4, hc_4⟩ := hx_7 oM
        have hsy_x_4 := hgd_x_2.2.2 _ (List.mem_of_getElem? hx_8)
        have hsn_x_4 := symE_name hsy_x_4
        have hst_x_4 := fun hk => (symE_term hsy_x_4 hk).1
        rw [s.glex] at hst_x_4; rw [show s.g.names = s.names.length from rfl] at hsn_x_4
        refine go ?_
        refine y_ix k hA_4 ?_
        refine y_lN (vs := [(.int .i64 x_4.kind), (.int .i64 x_4.n)]) hc_4 ?_
        refine y_al ?_
        intro w10 e7 z7 b4
        refine y_st b4 ?_
        intro w11 e8 z8 b5
        replace b5 : Blk w11 w9.heap.size #[(.int .i64 x_4.kind), (.int .i64 x_4.n)] 32 := blk_full b5 rfl
        refine go ?_
        refine y_ld b5 ?_
        refine go ?_
        by_cases h5 : (x_4.kind : Int) = 3
        ·
         have hsn9 := hsn_x_4; have hst9 := hst_x_4
         first | have hnr := hsn9 (by omega) | have htr := hst9 (by omega) | skip
         refine ysL (s := 60) (bT (decide_eq_true h5)) ?_
         refine go ?_
         refine y_ld b5 ?_
         have q8 := ((o0_f3.ext e7).keep1 e8 (fun k hk => (o0_f3.ext e7).ne_blk b4 (by decide) k hk))
         obtain ⟨x_5, g_5, hx_9⟩ := own_may (A := A1) x_4.n.toNat bools_len (by decide) q8
         obtain ⟨hx_10, hA_5, hc_5⟩ := hx_9 oM
         refine y_ix x_4.n.toNat hA_5 ?_
         refine y_lc (CellsL.at1 hc_5 0 rfl) ?_
         refine go ?_
         refine xc_cond (b := (!x_5)) rfl (fun h6 => ?_) (fun h6 => ?_)
         ·
          have h6' := bS h6
          refine go ?_
          refine y_ld b5 ?_
          refine y_ix x_4.n.toNat hA_5 ?_
          refine yNp (ox_stE (i := x_4.n.toNat) (off := 0) (vs := [(.bool true)]) (b := (true : Bool)) bools_len tS_4.h hA_5 rfl (v := (.bool true)) rfl rfl rfl rfl q8 hx_10 rfl (by decide) (by omega) ?_)
          intro w12 e9 z9 o4
          have q9 := (b5.keep e9 (fun _h => q8.ne_blk b5 (by decide) _ _h rfl))
          refine go ?_
          refine y_ld q9 ?_
          refine go ?_
          refine y_if (fun h7 => ?_) (fun h7 => ?_)
          ·
           exfalso; omega
          ·
           refine go ?_
           refine y_add ?_
           have q10 := ((o1_f3.ext e7).keep1 e8 (fun k hk => (o1_f3.ext e7).ne_blk b4 (by decide) k hk))
           have q11 := (q10.keep e9 (fun _k _hk _hh => hne _k _hh _hk))
           have y1 : Chg (fun b => ((.slice A1 s.names.length s.names.length) : Value).ownBlock = some b ∨ ((.slice A2 s.lex.length s.lex.length) : Value).ownBlock = some b) w8 w12 := (Chg.trans (Chg.chg1 (Chg.ext (Chg.trans (Chg.refl (fun b => ((.slice A1 s.names.length s.names.length) : Value).ownBlock = some b ∨ ((.slice A2 s.lex.length s.lex.length) : Value).ownBlock = some b) w8) x4 (fun b hb hl => hb)) e7) e8 (.inr (by omega))) e9 (fun b hb hl => .inl hb))
           refine go ?_
           exact ⟨rfl, x_2.right.length - (k + 1), by omega, k + 1, true, (ra2.set x_4.n.toNat true), rb2, by omega, (by omega), (RJ.name hG hR2 (map_get (f := PD.d) hx_4) rfl hlv9 hx_8 (by omega) (by rw [bang_of hx_10]; simp_all) (by rw [hl_ra2]; omega)), rfl, rfl, rfl, rfl, rfl, rfl, rfl, rfl, rfl, rfl, rfl, rfl, rfl, rfl, rfl, rfl, rfl, rfl, vW, rfl, o4, q11, y1⟩
         ·
          have h6' := bS h6
          refine go ?_
          refine y_ld b5 ?_
          refine go ?_
          refine y_if (fun h8 => ?_) (fun h8 => ?_)
          ·
           have hsn9 := hsn_x_4; have hst9 := hst_x_4
           first | have hnr := hsn9 (by omega) | have htr := hst9 (by omega) | skip
           refine go ?_
           refine y_ld b5 ?_
           have q12 := ((o1_f3.ext e7).keep1 e8 (fun k hk => (o1_f3.ext e7).ne_blk b4 (by decide) k hk))
           obtain ⟨x_6, g_6, hx_11⟩ := own_may (A := A2) x_4.n.toNat bools_len (by decide) q12
           obtain ⟨hx_12, hA_6, hc_6⟩ := hx_11 oM
           refine y_ix x_4.n.toNat hA_6 ?_
           refine yNp (ox_stE (i := x_4.n.toNat) (off := 0) (vs := [(.bool true)]) (b := (true : Bool)) bools_len tS_4.h hA_6 rfl (v := (.bool true)) rfl rfl rfl rfl q12 hx_12 rfl (by decide) (by omega) ?_)
           intro w13 e10 z10 o5
           refine go ?_
           refine y_add ?_
           have q13 := (q8.keep e10 (fun _k _hk _hh => hne _k _hk _hh))
           have y2 : Chg (fun b => ((.slice A1 s.names.length s.names.length) : Value).ownBlock = some b ∨ ((.slice A2 s.lex.length s.lex.length) : Value).ownBlock = some b) w8 w13 := (Chg.trans (Chg.chg1 (Chg.ext (Chg.trans (Chg.refl (fun b => ((.slice A1 s.names.length s.names.length) : Value).ownBlock = some b ∨ ((.slice A2 s.lex.length s.lex.length) : Value).ownBlock = some b) w8) x4 (fun b hb hl => hb)) e7) e8 (.inr (by omega))) e10 (fun b hb hl => .inr hb))
           refine go ?_
           exact ⟨rfl, x_2.right.length - (k + 1), by omega, k + 1, ag2, ra2, (rb2.set x_4.n.toNat true), by omega, (by omega), (RJ.term hG hR2 (map_get (f := PD.d) hx_4) rfl hlv9 hx_8 (by omega) (by rw [hl_rb2]; omega)), rfl, rfl, rfl, rfl, rfl, rfl, rfl, rfl, rfl, rfl, rfl, rfl, rfl, rfl, rfl, rfl, rfl, rfl, vW, rfl, q13, o5, y2⟩
          ·
           refine go ?_
           refine y_add ?_
           have q14 := ((o1_f3.ext e7).keep1 e8 (fun k hk => (o1_f3.ext e7).ne_blk b4 (by decide) k hk))
           have y3 : Chg (fun b => ((.slice A1 s.names.length s.names.length) : Value).ownBlock = some b ∨ ((.slice A2 s.lex.length s.lex.length) : Value).ownBlock = some b) w8 w11 := (Chg.chg1 (Chg.ext (Chg.trans (Chg.refl (fun b => ((.slice A1 s.names.length s.names.length) : Value).ownBlock = some b ∨ ((.slice A2 s.lex.length s.lex.length) : Value).ownBlock = some b) w8) x4 (fun b hb hl => hb)) e7) e8 (.inr (by omega)))
           refine go ?_
           exact ⟨rfl, x_2.right.length - (k + 1), by omega, k + 1, ag2, ra2, rb2, by omega, (by omega), (RJ.skip hR2 hx_8 (by omega) (fun hk => by first | (exfalso; omega) | (rw [bang_of hx_10]; simp_all))), rfl, rfl, rfl, rfl, rfl, rfl, rfl, rfl, rfl, rfl, rfl, rfl, rfl, rfl, rfl, rfl, rfl, rfl, vW, rfl, q8, q14, y3⟩
        ·
         refine ysL (s := 60) (bF (decide_eq_false h5)) ?_
         refine go ?_
         refine y_ld b5 ?_
         refine go ?_
         refine y_if (fun h9 => ?_) (fun h9 => ?_)
         ·
          have hsn9 := hsn_x_4; have hst9 := hst_x_4
          first | have hnr := hsn9 (by omega) | have htr := hst9 (by omega) | skip
          refine go ?_
          refine y_ld b5 ?_
          have q15 := ((o1_f3.ext e7).keep1 e8 (fun k hk => (o1_f3.ext e7).ne_blk b4 (by decide) k hk))
          obtain ⟨x_7, g_7, hx_13⟩ := own_may (A := A2) x_4.n.toNat bools_len (by decide) q15
          obtain ⟨hx_14, hA_7, hc_7⟩ := hx_13 oM
          refine y_ix x_4.n.toNat hA_7 ?_
          refine yNp (ox_stE (i := x_4.n.toNat) (off := 0) (vs := [(.bool true)]) (b := (true : Bool)) bools_len tS_4.h hA_7 rfl (v := (.bool true)) rfl rfl rfl rfl q15 hx_14 rfl (by decide) (by omega) ?_)
          intro w14 e11 z11 o6
          refine go ?_
          refine y_add ?_
          have q16 := ((o0_f3.ext e7).keep1 e8 (fun k hk => (o0_f3.ext e7).ne_blk b4 (by decide) k hk))
          have q17 := (q16.keep e11 (fun _k _hk _hh => hne _k _hk _hh))
          have y4 : Chg (fun b => ((.slice A1 s.names.length s.names.length) : Value).ownBlock = some b ∨ ((.slice A2 s.lex.length s.lex.length) : Value).ownBlock = some b) w8 w14 := (Chg.trans (Chg.chg1 (Chg.ext (Chg.trans (Chg.refl (fun b => ((.slice A1 s.names.length s.names.length) : Value).ownBlock = some b ∨ ((.slice A2 s.lex.length s.lex.length) : Value).ownBlock = some b) w8) x4 (fun b hb hl => hb)) e7) e8 (.inr (by omega))) e11 (fun b hb hl => .inr hb))
          refine go ?_
          exact ⟨rfl, x_2.right.length - (k + 1), by omega, k + 1, ag2, ra2, (rb2.set x_4.n.toNat true), by omega, (by omega), (RJ.term hG hR2 (map_get (f := PD.d) hx_4) rfl hlv9 hx_8 (by omega) (by rw [hl_rb2]; omega)), rfl, rfl, rfl, rfl, rfl, rfl, rfl, rfl, rfl, rfl, rfl, rfl, rfl, rfl, rfl, rfl, rfl, rfl, vW, rfl, q17, o6, y4⟩
         ·
          refine go ?_
          refine y_add ?_
          have q18 := ((o0_f3.ext e7).keep1 e8 (fun k hk => (o0_f3.ext e7).ne_blk b4 (by decide) k hk))
          have q19 := ((o1_f3.ext e7).keep1 e8 (fun k hk => (o1_f3.ext e7).ne_blk b4 (by decide) k hk))
          have y5 : Chg (fun b => ((.slice A1 s.names.length s.names.length) : Value).ownBlock = some b ∨ ((.slice A2 s.lex.length s.lex.length) : Value).ownBlock = some b) w8 w11 := (Chg.chg1 (Chg.ext (Chg.trans (Chg.refl (fun b => ((.slice A1 s.names.length s.names.length) : Value).ownBlock = some b ∨ ((.slice A2 s.lex.length s.lex.length) : Value).ownBlock = some b) w8) x4 (fun b hb hl => hb)) e7) e8 (.inr (by omega)))
          refine go ?_
          exact ⟨rfl, x_2.right.length - (k + 1), by omega, k + 1, ag2, ra2, rb2, by omega, (by omega), (RJ.skip hR2 hx_8 (by omega) (fun hk => by first | (exfalso; omega) | (rw [bang_of rfl]; simp_all))), rfl, rfl, rfl, rfl, rfl, rfl, rfl, rfl, rfl, rfl, rfl, rfl, rfl, rfl, rfl, rfl, rfl, rfl, vW, rfl, q18, q19, y5⟩
       ·
        have h4' := bS h4
        refine go ?_
        refine y_add ?_
        have y6 : Chg (fun b => ((.slice A1 s.names.length s.names.length) : Value).ownBlock = some b ∨ ((.slice A2 s.lex.length s.lex.length) : Value).ownBlock = some b) w5 w9 := (Chg.trans (Chg.chg1 (Chg.ext (Chg.trans (Chg.refl (fun b => ((.slice A1 s.names.length s.names.length) : Value).ownBlock = some b ∨ ((.slice A2 s.lex.length s.lex.length) : Value).ownBlock = some b) w5) x2 (fun b hb hl => hb)) e5) e6 (.inr (by omega))) x4 (fun b hb hl => hb))
        refine go ?_
        exact ⟨rfl, s.prods.length - (i + 1), by omega, i + 1, ag2, ra2, rb2, by omega, (by omega), (RJ.done hR2 (map_get (f := PD.d) hx_4) rfl (by first | exact .inl (by omega) | exact .inr ((bang_of hx_6).trans (by simp_all)))), rfl, rfl, rfl, rfl, rfl, rfl, vW, rfl, o0_f3, o1_f3, y6⟩
      ·
       refine ysL (s := 43) (bF (decide_eq_false h3)) ?_
       refine go ?_
       refine y_add ?_
       have y7 : Chg (fun b => ((.slice A1 s.names.length s.names.length) : Value).ownBlock = some b ∨ ((.slice A2 s.lex.length s.lex.length) : Value).ownBlock = some b) w5 w9 := (Chg.trans (Chg.chg1 (Chg.ext (Chg.trans (Chg.refl (fun b => ((.slice A1 s.names.length s.names.length) : Value).ownBlock = some b ∨ ((.slice A2 s.lex.length s.lex.length) : Value).ownBlock = some b) w5) x2 (fun b hb hl => hb)) e5) e6 (.inr (by omega))) x4 (fun b hb hl => hb))
       refine go ?_
       exact ⟨rfl, s.prods.length - (i + 1), by omega, i + 1, ag2, ra2, rb2, by omega, (by omega), (RJ.done hR2 (map_get (f := PD.d) hx_4) rfl (by first | exact .inl (by omega) | exact .inr ((bang_of rfl).trans (by simp_all)))), rfl, rfl, rfl, rfl, rfl, rfl, vW, rfl, o0_f3, o1_f3, y7⟩
    ·
     have y8 : Chg (fun b => ((.slice A1 s.names.length s.names.length) : Value).ownBlock = some b ∨ ((.slice A2 s.lex.length s.lex.length) : Value).ownBlock = some b) w4 w6 := (Chg.trans (Chg.trans (Chg.refl (fun b => ((.slice A1 s.names.length s.names.length) : Value).ownBlock = some b ∨ ((.slice A2 s.lex.length s.lex.length) : Value).ownBlock = some b) w4) x1 (fun b hb hl => hb)) x2 (fun b hb hl => hb))
     refine go ?_
     exact ⟨rfl, 2 * ra1.count false + ag1.toNat, by exact mu_lt hm_f1 hag9 hR1.cnt, ag1, ra1, rb1, by rfl, (RO.next hR1 (by rw [s.gprods]; omega)), rfl, rfl, rfl, rfl, rfl, rfl, o0_f2, o1_f2, y8⟩
  ·
   have h1' := bS h1
   obtain ⟨hea, heb⟩ := RO.done hG (by rw [h1] at hRO; exact hRO) (by rw [hl_ra] <;> rfl) (by rw [hl_rb]; exact s.glex.symm)
   refine go ?_
   refine xc_loopN (fun m_ f_ Wx => ∃ (i : Nat), m_ = s.names.length - i ∧ (i ≤ s.names.length) ∧ (idxO false ra 0 = idxO false (ra.drop i) i) ∧ f_ 1 = (.pointer (some ⟨w.heap.size, 0, none⟩)) ∧ f_ 4 = (.slice A1 s.names.length s.names.length) ∧ f_ 5 = (.slice A2 s.lex.length s.lex.length) ∧ f_ 6 = (.bool ag) ∧ f_ 25 = (.bool ag) ∧ f_ 11 = (.int .i64 ((i : Nat))) ∧ Ext w5 Wx) (s.names.length) ?_ ?_
   ·
    exact ⟨0, (by omega), (by omega), rfl, rfl, rfl, rfl, rfl, rfl, vW, (Chg.refl _ _)⟩
   ·
    rintro m_ f4 w15 ⟨i, hm_f4, hi, hq, g1_f4, g4_f4, g5_f4, g6_f4, g25_f4, g11_f4, x6⟩
    have hx6 := x6.size
    rw [← usf g1_f4, ← usf g4_f4, ← usf g5_f4, ← usf g6_f4, ← usf g25_f4, ← usf g11_f4]
    refine go ?_
    refine y_if (fun h10 => ?_) (fun h10 => ?_)
    ·
     obtain ⟨x_8, g_8, hx_15⟩ := own_may (A := A1) i bools_len (by decide) (o0_f1.ext x6)
     obtain ⟨hx_16, hA_8, hc_8⟩ := hx_15 oM
     refine go ?_
     refine y_ix i hA_8 ?_
     refine y_lc (CellsL.at1 hc_8 0 rfl) ?_
     refine go ?_
     refine xc_cond (b := (!x_8)) rfl (fun h11 => ?_) (fun h11 => ?_)
     ·
      have h11' := bS h11
      refine go ?_
      refine y_r2 ?_
      have x7 : Ext w w15 := (Ext.trans (Chg.trans (Chg.trans (Ext.trans (Ext.trans e1 e2) e3) e4 (fun b hb hl => (absurd hl (by have _h := lo1 b hb; omega)))) x1 (fun b hb hl => hb.elim (fun hb => (absurd hl (by have _h := lo1 b hb; omega))) (fun hb => (absurd hl (by have _h := lo2 b hb; omega))))) x6)
      exact ⟨by have h9 := hq.trans (idxO_hit hx_16 (by simp_all)); rw [hea] at h9; rw [reachedE_names (by rw [h9]; omega), h9] <;> rfl, x7⟩
     ·
      have h11' := bS h11
      refine go ?_
      refine y_add ?_
      refine go ?_
      exact ⟨rfl, s.names.length - (i + 1), by omega, i + 1, by omega, (by omega), (hq.trans (idxO_next hx_16 (by simp_all))), rfl, rfl, rfl, rfl, rfl, vW, x6⟩
    ·
     have hq3 : idxO false ra 0 = -1 := hq.trans (idxO_end (by omega))
     refine go ?_
     refine xc_loopN (fun m_ f_ Wx => ∃ (j : Nat), m_ = s.lex.length - j ∧ (j ≤ s.lex.length) ∧ (unR rb s.g.triv 0 = unR (rb.drop j) (s.g.triv.drop j) j) ∧ f_ 1 = (.pointer (some ⟨w.heap.size, 0, none⟩)) ∧ f_ 4 = (.slice A1 s.names.length s.names.length) ∧ f_ 5 = (.slice A2 s.lex.length s.lex.length) ∧ f_ 6 = (.bool ag) ∧ f_ 25 = (.bool ag) ∧ f_ 11 = (.int .i64 ((i : Nat))) ∧ f_ 79 = (.int .i64 ((i : Nat))) ∧ f_ 80 = (.slice A1 s.names.length s.names.length) ∧ f_ 81 = (.int .i64 (((s.names.length : Nat) : Int))) ∧ f_ 82 = (.bool (decide (((i : Nat) : Int) < (((s.names.length : Nat) : Int))))) ∧ f_ 12 = (.int .i64 ((j : Nat))) ∧ Ext w15 Wx) (s.lex.length) ?_ ?_
     ·
      exact ⟨0, (by omega), (by omega), rfl, rfl, rfl, rfl, rfl, rfl, rfl, rfl, rfl, rfl, rfl, vW, (Chg.refl _ _)⟩
     ·
      rintro m_ f5 w16 ⟨j, hm_f5, hj, hq4, g1_f5, g4_f5, g5_f5, g6_f5, g25_f5, g11_f5, g79_f5, g80_f5, g81_f5, g82_f5, g12_f5, x8⟩
      have hx8 := x8.size
      rw [← usf g1_f5, ← usf g4_f5, ← usf g5_f5, ← usf g6_f5, ← usf g25_f5, ← usf g11_f5, ← usf g79_f5, ← usf g80_f5, ← usf g81_f5, ← usf g82_f5, ← usf g12_f5]
      refine go ?_
      refine y_if (fun h12 => ?_) (fun h12 => ?_)
      ·
       obtain ⟨x_9, g_9, hx_17⟩ := own_may (A := A2) j bools_len (by decide) ((o1_f1.ext x6).ext x8)
       obtain ⟨hx_18, hA_9, hc_9⟩ := hx_17 oM
       refine go ?_
       refine y_ix j hA_9 ?_
       refine y_lc (CellsL.at1 hc_9 0 rfl) ?_
       refine go ?_
       by_cases h13 : (!x_9) = true
       ·
        refine ysL (s := 102) (bT h13) ?_
        have q20 := (((b1.ext e2).ext e3).keep e4 (fun _h => (o1.ext e3).ne_blk ((b1.ext e2).ext e3) (by decide) _ _h rfl))
        have q21 := (q20.keep x1 (fun hb => hb.elim (fun _h => o3.ne_blk q20 (by decide) _ _h rfl) (fun _h => q1.ne_blk q20 (by decide) _ _h rfl)))
        refine go ?_
        refine y_ld ((q21.ext x6).ext x8) ?_
        have x9 : Ext w w16 := (Ext.trans (Ext.trans (Chg.trans (Chg.trans (Ext.trans (Ext.trans e1 e2) e3) e4 (fun b hb hl => (absurd hl (by have _h := lo1 b hb; omega)))) x1 (fun b hb hl => hb.elim (fun hb => (absurd hl (by have _h := lo1 b hb; omega))) (fun hb => (absurd hl (by have _h := lo2 b hb; omega))))) x6) x8)
        obtain ⟨x_10, g_10, o_10, hx_19⟩ := row_may (A := s.lA) (cs := LR.cs) j LR.len (by decide) (RowA.ext hS.lex x9)
        obtain ⟨hx_20, hA_10, hc_10⟩ := hx_19 oM
        refine go ?_
        refine y_ix j hA_10 ?_
        refine go ?_
        refine y_lc (CellsL.at1 hc_10 1 rfl) ?_
        refine go ?_
        refine xc_cond (b := (!x_10.trivia)) rfl (fun h14 => ?_) (fun h14 => ?_)
        ·
         have h14' := bS h14
         refine go ?_
         refine y_r2 ?_
         exact ⟨by have h9 := hq4.trans (unR_hit hx_18 (map_get (f := LR.trivia) (hx_19 (by omega)).1) (by simp_all)); rw [hea] at hq3; rw [heb] at h9; rw [reachedE_rules (by rw [hq3]; decide) h9 (by omega)] <;> rfl, x9⟩
        ·
         have h14' := bS h14
         refine go ?_
         refine y_add ?_
         refine go ?_
         exact ⟨rfl, s.lex.length - (j + 1), by omega, j + 1, by omega, (by omega), (hq4.trans (unR_next hx_18 (map_get (f := LR.trivia) (hx_19 (by omega)).1) (by rintro ⟨e1, e2⟩; simp_all))), rfl, rfl, rfl, rfl, rfl, rfl, rfl, rfl, rfl, rfl, vW, x8⟩
       ·
        refine ysL (s := 102) (bF (Bool.eq_false_iff.2 h13)) ?_
        refine go ?_
        refine y_add ?_
        obtain ⟨lr9, hlr9⟩ := get_ex (l := s.lex) (i := j) (by omega)
        refine go ?_
        exact ⟨rfl, s.lex.length - (j + 1), by omega, j + 1, by omega, (by omega), (hq4.trans (unR_next hx_18 (map_get (f := LR.trivia) hlr9) (by rintro ⟨e1, e2⟩; simp_all))), rfl, rfl, rfl, rfl, rfl, rfl, rfl, rfl, rfl, rfl, vW, x8⟩
      ·
       refine go ?_
       refine y_r2 ?_
       have x10 : Ext w w16 := (Ext.trans (Ext.trans (Chg.trans (Chg.trans (Ext.trans (Ext.trans e1 e2) e3) e4 (fun b hb hl => (absurd hl (by have _h := lo1 b hb; omega)))) x1 (fun b hb hl => hb.elim (fun hb => (absurd hl (by have _h := lo1 b hb; omega))) (fun hb => (absurd hl (by have _h := lo2 b hb; omega))))) x6) x8)
       exact ⟨by have h9 := hq4.trans (by rw [List.drop_of_length_le (by omega)]; cases s.g.triv.drop j <;> rfl : _ = (-1 : Int)); rw [hea] at hq3; rw [heb] at h9; rw [reachedE_ok (by rw [hq3]; decide) h9] <;> rfl, x10⟩
theorem all_hit {α : Type} {f : α → Bool} {l : List α} {i : Nat} {x : α} (h : l[i]? = some x) (hf : f x = false) : (l.drop i).all f = false := by rw [drop_get h, List.all_cons, hf]; rfl
theorem all_next {α : Type} {f : α → Bool} {l : List α} {i : Nat} {x : α} (h : l[i]? = some x) (hf : f x = true) : (l.drop i).all f = (l.drop (i + 1)).all f := by rw [drop_get h, List.all_cons, hf]; rfl
theorem null_ok {h : List Bool} {l : List Sym} : (l.all (fun x => okS (fun _ => true) h x) && l.all (fun x => decide (x.kind = 3))) = l.all (fun x => okS (fun _ => false) h x) := by
  rw [Bool.eq_iff_iff, Bool.and_eq_true, List.all_eq_true, List.all_eq_true, List.all_eq_true]
  constructor
  · rintro ⟨h1, h2⟩ x hx
    have h3 := h1 x hx
    have h4 := h2 x hx
    simp only [decide_eq_true_eq] at h4
    unfold okS at h3 ⊢
    rw [if_pos h4] at h3 ⊢; exact h3
  · intro h1
    refine ⟨fun x hx => ?_, fun x hx => ?_⟩ <;> have h3 := h1 x hx <;> unfold okS at h3
    · unfold okS
      split
      · rename_i hk; rw [if_pos hk] at h3; exact h3
      · rfl
    · split at h3
      · rename_i hk; exact decide_eq_true hk
      · cases h3
theorem ok_next {α : Type} {l : List α} {k : Nat} {c : α → Bool} {x : α} {ok ok' A : Bool} (hok : ok = (A && (l.take k).all c)) (hx : l[k]? = some x) (h : ok' = (ok && c x)) : ok' = (A && (l.take (k + 1)).all c) := by
  rw [List.take_add_one, hx, h, hok]
  simp [Bool.and_assoc]
def prodE (g : GD) : Int × Int := if 0 ≤ idxO false (madeG (fun _ => true) g) 0 then (73, idxO false (madeG (fun _ => true) g) 0) else (0, 0)
structure BI (good : Sym → Bool) (g : GD) (c0 : Nat) (h : List Bool) (ag : Bool) (i : Nat) : Prop where
  sub : subB h (madeG good g)
  cnt : h.count false ≤ c0 ∧ (ag = true → h.count false < c0)
  cl : ag = false → ∀ p ∈ g.prods.take i, (∀ x ∈ p.2, okS good h x = true) → h[p.1.toNat]! = true
structure BO (good : Sym → Bool) (g : GD) (h : List Bool) (ag : Bool) : Prop where
  sub : subB h (madeG good g)
  cl : ag = false → closB good g h
section
variable {good : Sym → Bool} {g : GD} {c0 i : Nat} {h : List Bool} {ag : Bool} {p : P2}
theorem BO.start {n : Nat} : BO good g (List.replicate n false) true := ⟨subB.zero, fun h => by cases h⟩
theorem BI.start (hB : BO good g h ag) : BI good g (h.count false) h false 0 := ⟨hB.sub, ⟨Nat.le_refl _, fun h => by cases h⟩, fun _ p hp => by simp at hp⟩
theorem BO.next (hB : BI good g c0 h ag i) (hi : g.prods.length ≤ i) : BO good g h ag := ⟨hB.sub, fun h9 p hp => hB.cl h9 p (by rw [List.take_of_length_le hi]; exact hp)⟩
theorem BO.done (hG : GoodG g) (hB : BO good g h false) (hl : h.length = g.names) : h = madeG good g := madeG_eq hG hl hB.sub (hB.cl rfl)
theorem BI.yes (hG : GoodG g) (hB : BI good g c0 h ag i) (hp : g.prods[i]? = some p) (hv : h[p.1.toNat]! = false) (hx : ∀ x ∈ p.2, okS good h x = true) (hn : p.1.toNat < h.length) : BI good g c0 (h.set p.1.toNat true) true (i + 1) := by
  have hc := count_set hv hn
  have h1 := hB.cnt.1
  exact ⟨hB.sub.set (madeG_closed good hG p (List.mem_of_getElem? hp) fun x h9 => okS_mono hB.sub (hx x h9)), ⟨by omega, fun _ => by omega⟩, fun h9 => by cases h9⟩
theorem BI.skip (hB : BI good g c0 h ag i) (hp : g.prods[i]? = some p) (he : h[p.1.toNat]! = true ∨ ¬ ∀ x ∈ p.2, okS good h x = true) : BI good g c0 h ag (i + 1) :=
  ⟨hB.sub, hB.cnt, fun h9 q hq hx => (take_succ_mem hp hq).elim (fun hq => hB.cl h9 q hq hx) fun e => by
    rw [e] at hx ⊢
    rcases he with he | he
    · exact he
    · exact absurd hx he⟩
end
instance pf_135 : PlF Tryz.prog 135 := ⟨by kernel_rfl⟩
theorem allR_calls (p : PD) (A : Option Addr) (h : List Bool) (n c : Nat) (w : World) (hR : RowA w p.rA (p.right.flatMap Sym.cs)) (hfr : p.right.length ≤ 8796093022208) (hA : RowA w A (h.flatMap bools)) (hl : h.length = n) (hX : ∀ x ∈ p.right, x.kind = 3 → 0 ≤ x.n ∧ x.n < (n : Int)) :
    Calls Tryz.prog 135 #[(.agg #[(.int .i64 p.left), (.slice p.rA p.right.length p.rc)]), (.slice A n c)] w (Ret (fun v w' => v = .bool (p.right.all (fun x => okS (fun _ => true) h x)) ∧ Ext w w')) := by
 refine calls_y (n := 32) Tryz.func135 ?_
 refine go ?_
 refine y_bx ?_
 intro w1 e1 z1 b1
 refine go ?_
 refine xc_loopN (fun m_ f_ Wx => ∃ (k : Nat), m_ = p.right.length - k ∧ (k ≤ p.right.length) ∧ (p.right.all (fun x => okS (fun _ => true) h x) = (p.right.drop k).all (fun x => okS (fun _ => true) h x)) ∧ f_ 1 = (.slice A n c) ∧ f_ 2 = (.pointer (some ⟨w.heap.size, 0, none⟩)) ∧ f_ 5 = (.int .i64 ((k : Nat))) ∧ Ext w1 Wx) (p.right.length) ?_ ?_
 ·
  exact ⟨0, (by omega), (by omega), rfl, rfl, rfl, vW, (Chg.refl _ _)⟩
 ·
  rintro m_ f1 w2 ⟨k, hm_f1, hk, hq, g1_f1, g2_f1, g5_f1, x1⟩
  have hx1 := x1.size
  rw [← usf g1_f1, ← usf g2_f1, ← usf g5_f1]
  refine go ?_
  refine y_ld (b1.ext x1) ?_
  refine go ?_
  refine y_if (fun h1 => ?_) (fun h1 => ?_)
  ·
   refine go ?_
   refine y_ld (b1.ext x1) ?_
   have x2 : Ext w w2 := (Ext.trans e1 x1)
   obtain ⟨x_1, g_1, o_1, hx_1⟩ := row_may (A := p.rA) (cs := Sym.cs) k Sym.len (by decide) (RowA.ext hR x2)
   obtain ⟨hx_2, hA_1, hc_1⟩ := hx_1 oM
   refine go ?_
   refine y_ix k hA_1 ?_
   refine go ?_
   refine y_lc (CellsL.at1 hc_1 0 rfl) ?_
   refine go ?_
   by_cases h2 : (x_1.kind : Int) = 3
   ·
    have hx9 := hX _ (List.mem_of_getElem? hx_2)
    first | have hxr := hx9 (by omega) | skip
    refine ysL (s := 20) (bT (decide_eq_true h2)) ?_
    refine go ?_
    refine y_ld (b1.ext x1) ?_
    refine go ?_
    refine y_ix k hA_1 ?_
    refine go ?_
    refine y_lc (CellsL.at1 hc_1 1 rfl) ?_
    obtain ⟨x_2, g_2, o_2, hx_3⟩ := row_may (A := A) (cs := bools) x_1.n.toNat bools_len (by decide) (RowA.ext hA x2)
    obtain ⟨hx_4, hA_2, hc_2⟩ := hx_3 oM
    refine y_ix x_1.n.toNat hA_2 ?_
    refine y_lc (CellsL.at1 hc_2 0 rfl) ?_
    refine go ?_
    refine xc_cond (b := (!x_2)) rfl (fun h3 => ?_) (fun h3 => ?_)
    ·
     have h3' := bS h3
     refine go ?_
     refine y_r1 ?_
     exact ⟨congrArg Value.bool (hq.trans (all_hit hx_2 (by show okS (fun _ => true) h x_1 = false; unfold okS; first | (rw [if_neg (by omega)]) | (rw [if_pos (by omega), bang_of hx_4]; simp_all)))).symm, x2⟩
    ·
     have h3' := bS h3
     refine go ?_
     refine y_add ?_
     refine go ?_
     exact ⟨rfl, p.right.length - (k + 1), by omega, k + 1, by omega, (by omega), (hq.trans (all_next hx_2 (by show okS (fun _ => true) h x_1 = true; unfold okS; first | (rw [if_neg (by omega)]) | (rw [if_pos (by omega), bang_of hx_4]; simp_all)))), rfl, rfl, vW, x1⟩
   ·
    have hx9 := hX _ (List.mem_of_getElem? hx_2)
    first | have hxr := hx9 (by omega) | skip
    refine ysL (s := 20) (bF (decide_eq_false h2)) ?_
    refine go ?_
    refine y_add ?_
    refine go ?_
    exact ⟨rfl, p.right.length - (k + 1), by omega, k + 1, by omega, (by omega), (hq.trans (all_next hx_2 (by show okS (fun _ => true) h x_1 = true; unfold okS; first | (rw [if_neg (by omega)]) | (rw [if_pos (by omega), bang_of rfl]; simp_all)))), rfl, rfl, vW, x1⟩
  ·
   refine go ?_
   refine y_r1 ?_
   have x3 : Ext w w2 := (Ext.trans e1 x1)
   exact ⟨congrArg Value.bool (by rw [hq, List.drop_of_length_le (by omega)] <;> rfl), x3⟩
theorem productiveR_calls (s : SP) (w : World) (hS : SpR w s) (hG : GoodG s.g) :
    Calls Tryz.prog 106 #[(.agg #[(.slice s.lA s.lex.length s.lc), (.slice s.nA s.names.length s.nc), (.int .i64 s.start), (.slice s.pA s.prods.length s.pc)])] w (Ret (fun v w' => v = .tuple #[.int .i64 (prodE s.g).2, .int .i64 (prodE s.g).1] ∧ Ext w w')) := by
 have hfp := hS.fp.by; have hfl := hS.fl.by; have hfn := hS.fn.by
 refine calls_y (n := 53) Tryz.func106 ?_
 refine go ?_
 refine y_bx ?_
 intro w1 e1 z1 b1
 refine go ?_
 refine y_ld b1 ?_
 refine go ?_
 refine yOp (ox_makeD (n := s.names.length) (l := ((List.replicate s.names.length false))) (cs := bools) tE_144.h rfl rfl (by omega) (by omega) (made_bools _) ?_)
 intro A1 w2 o1 e2 lo1
 have he2 := e2.size
 refine go ?_
 refine xc_loopN (fun m_ f_ Wx => ∃ (ag : Bool) (ra : List Bool), m_ = 2 * ra.count false + ag.toNat ∧ (BO (fun _ => true) s.g ra ag) ∧ f_ 1 = (.pointer (some ⟨w.heap.size, 0, none⟩)) ∧ f_ 2 = (.int .i64 0) ∧ f_ 3 = (.int .i64 0) ∧ f_ 4 = (.slice A1 s.names.length s.names.length) ∧ f_ 5 = (.bool ag) ∧ Vx.Own Wx 4 1 (.slice A1 s.names.length s.names.length) s.names.length (ra.flatMap bools) ∧ Chg (fun b => ((.slice A1 s.names.length s.names.length) : Value).ownBlock = some b) w2 Wx) (2 * ((List.replicate s.names.length false)).count false + 1) ?_ ?_
 ·
  exact ⟨true, (List.replicate s.names.length false), (by first | rfl | omega | simp), BO.start, rfl, rfl, rfl, rfl, rfl, o1, (Chg.refl _ _)⟩
 ·
  rintro m_ f1 w3 ⟨ag, ra, hm_f1, hBO, g1_f1, g2_f1, g3_f1, g4_f1, g5_f1, o0_f1, x1⟩
  have hx1 := x1.size
  have hl_ra : ra.length = s.names.length := by have _q := (o0_f1).len; rw [fm_len bools_len] at _q; omega
  rw [← usf g1_f1, ← usf g2_f1, ← usf g3_f1, ← usf g4_f1, ← usf g5_f1]
  refine go ?_
  refine xc_cond (b := ag) rfl (fun h1 => ?_) (fun h1 => ?_)
  ·
   have h1' := bS h1
   have hag9 : ag = true := h1
   refine go ?_
   refine xc_loopN (fun m_ f_ Wx => ∃ (i : Nat) (ag1 : Bool) (ra1 : List Bool), m_ = s.prods.length - i ∧ (i ≤ s.prods.length) ∧ (BI (fun _ => true) s.g (ra.count false) ra1 ag1 i) ∧ f_ 1 = (.pointer (some ⟨w.heap.size, 0, none⟩)) ∧ f_ 2 = (.int .i64 0) ∧ f_ 3 = (.int .i64 0) ∧ f_ 4 = (.slice A1 s.names.length s.names.length) ∧ f_ 13 = (.bool ag) ∧ f_ 6 = (.int .i64 ((i : Nat))) ∧ f_ 5 = (.bool ag1) ∧ Vx.Own Wx 4 1 (.slice A1 s.names.length s.names.length) s.names.length (ra1.flatMap bools) ∧ Chg (fun b => ((.slice A1 s.names.length s.names.length) : Value).ownBlock = some b) w3 Wx) (s.prods.length) ?_ ?_
   ·
    exact ⟨0, false, ra, (by omega), (by omega), (BI.start hBO), rfl, rfl, rfl, rfl, rfl, vW, rfl, o0_f1, (Chg.refl _ _)⟩
   ·
    rintro m_ f2 w4 ⟨i, ag1, ra1, hm_f2, hi, hB1, g1_f2, g2_f2, g3_f2, g4_f2, g13_f2, g6_f2, g5_f2, o0_f2, x2⟩
    have hx2 := x2.size
    have hl_ra1 : ra1.length = s.names.length := by have _q := (o0_f2).len; rw [fm_len bools_len] at _q; omega
    rw [← usf g1_f2, ← usf g2_f2, ← usf g3_f2, ← usf g4_f2, ← usf g13_f2, ← usf g6_f2, ← usf g5_f2]
    have q1 := ((b1.ext e2).keep x1 (fun _h => o1.ne_blk (b1.ext e2) (by decide) _ _h rfl))
    have q2 := (q1.keep x2 (fun _h => o0_f1.ne_blk q1 (by decide) _ _h rfl))
    refine go ?_
    refine y_ld q2 ?_
    refine go ?_
    refine y_if (fun h2 => ?_) (fun h2 => ?_)
    ·
     refine go ?_
     refine y_ld q2 ?_
     have x3 : Ext w w4 := (Chg.trans (Chg.trans (Ext.trans e1 e2) x1 (fun b hb hl => (absurd hl (by have _h := lo1 b hb; omega)))) x2 (fun b hb hl => (absurd hl (by have _h := lo1 b hb; omega))))
     obtain ⟨x_1, g_1, o_1, hx_1⟩ := row_may (A := s.pA) (cs := PD.cs) i PD.len (by decide) (RowA.ext hS.prods x3)
     obtain ⟨hx_2, hA_1, hc_1⟩ := hx_1 oM
     have hfr_x_1 := (hS.fr _ (List.mem_of_getElem? hx_2)).le
     have hgd_x_1 := hG.2 _ (List.mem_of_getElem? (map_get (f := PD.d) hx_2))
     have hgl_x_1 : 0 ≤ x_1.left ∧ x_1.left < (s.names.length : Int) := ⟨hgd_x_1.1, hgd_x_1.2.1⟩
     refine go ?_
     refine y_ix i hA_1 ?_
     refine y_lN (vs := [(.int .i64 x_1.left), (.slice x_1.rA x_1.right.length x_1.rc)]) hc_1 ?_
     refine y_al ?_
     intro w5 e3 z3 b2
     refine y_st b2 ?_
     intro w6 e4 z4 b3
     replace b3 : Blk w6 w4.heap.size #[(.int .i64 x_1.left), (.slice x_1.rA x_1.right.length x_1.rc)] 37 := blk_full b3 rfl
     refine go ?_
     refine y_ld b3 ?_
     have q3 := ((o0_f2.ext e3).keep1 e4 (fun k hk => (o0_f2.ext e3).ne_blk b2 (by decide) k hk))
     obtain ⟨x_2, g_2, hx_3⟩ := own_may (A := A1) x_1.left.toNat bools_len (by decide) q3
     obtain ⟨hx_4, hA_2, hc_2⟩ := hx_3 oM
     refine y_ix x_1.left.toNat hA_2 ?_
     refine y_lc (CellsL.at1 hc_2 0 rfl) ?_
     refine go ?_
     by_cases h3 : (!x_2) = true
     ·
      refine ysL (s := 32) (bT h3) ?_
      refine y_lN (vs := [(.int .i64 x_1.left), (.slice x_1.rA x_1.right.length x_1.rc)]) ⟨b3.cell rfl, b3.cell rfl, trivial⟩ ?_
      have x4 : Ext w w6 := (Ext.chg1 (Ext.trans x3 e3) e4 (by omega))
      refine go ?_
      refine yCa (ret_mono (allR_calls x_1 A1 ra1 s.names.length s.names.length w6 (RowA.ext ((hS.right _ (List.mem_of_getElem? hx_2))) x4) hfr_x_1 (Own.rowO q3) hl_ra1 (fun y hy hk => symE_name (hgd_x_1.2.2 y hy) hk)) ?_)
      rintro _ w7 ⟨rfl, e5⟩
      have he5 := e5.size
      refine go ?_
      refine xc_cond (b := ((x_1.right.all (fun x => okS (fun _ => true) ra1 x)))) rfl (fun h4 => ?_) (fun h4 => ?_)
      ·
       have h4' := bS h4
       refine go ?_
       refine y_ld (b3.ext e5) ?_
       refine y_ix x_1.left.toNat hA_2 ?_
       refine yNp (ox_stE (i := x_1.left.toNat) (off := 0) (vs := [(.bool true)]) (b := (true : Bool)) bools_len tS_4.h hA_2 rfl (v := (.bool true)) rfl rfl rfl rfl (q3.ext e5) hx_4 rfl (by decide) (by omega) ?_)
       intro w8 e6 z5 o2
       refine go ?_
       refine y_add ?_
       have y1 : Chg (fun b => ((.slice A1 s.names.length s.names.length) : Value).ownBlock = some b) w3 w8 := (Chg.trans (Chg.ext (Chg.chg1 (Chg.ext (Chg.trans (Chg.refl (fun b => ((.slice A1 s.names.length s.names.length) : Value).ownBlock = some b) w3) x2 (fun b hb hl => hb)) e3) e4 (.inr (by omega))) e5) e6 (fun b hb hl => hb))
       refine go ?_
       exact ⟨rfl, s.prods.length - (i + 1), by omega, i + 1, true, (ra1.set x_1.left.toNat true), by omega, (by omega), (BI.yes hG hB1 (map_get (f := PD.d) hx_2) ((bang_of hx_4).trans (by simp_all)) (by have h9 : x_1.right.all (fun x => okS (fun _ => true) ra1 x) = true := (by simp_all); rw [List.all_eq_true] at h9; exact h9) (by rw [hl_ra1]; have := hgl_x_1; show x_1.left.toNat < _; omega)), rfl, rfl, rfl, rfl, rfl, vW, rfl, o2, y1⟩
      ·
       have h4' := bS h4
       refine go ?_
       refine y_add ?_
       have y2 : Chg (fun b => ((.slice A1 s.names.length s.names.length) : Value).ownBlock = some b) w3 w7 := (Chg.ext (Chg.chg1 (Chg.ext (Chg.trans (Chg.refl (fun b => ((.slice A1 s.names.length s.names.length) : Value).ownBlock = some b) w3) x2 (fun b hb hl => hb)) e3) e4 (.inr (by omega))) e5)
       refine go ?_
       exact ⟨rfl, s.prods.length - (i + 1), by omega, i + 1, ag1, ra1, by omega, (by omega), (BI.skip hB1 (map_get (f := PD.d) hx_2) (.inr (fun h9 => absurd (List.all_eq_true.2 h9) (by show ¬ x_1.right.all (fun x => okS (fun _ => true) ra1 x) = true; exact fun h9 => Bool.noConfusion (h9.symm.trans h4))))), rfl, rfl, rfl, rfl, rfl, vW, rfl, (q3.ext e5), y2⟩
     ·
      refine ysL (s := 32) (bF (Bool.eq_false_iff.2 h3)) ?_
      refine go ?_
      refine y_add ?_
      have y3 : Chg (fun b => ((.slice A1 s.names.length s.names.length) : Value).ownBlock = some b) w3 w6 := (Chg.chg1 (Chg.ext (Chg.trans (Chg.refl (fun b => ((.slice A1 s.names.length s.names.length) : Value).ownBlock = some b) w3) x2 (fun b hb hl => hb)) e3) e4 (.inr (by omega)))
      refine go ?_
      exact ⟨rfl, s.prods.length - (i + 1), by omega, i + 1, ag1, ra1, by omega, (by omega), (BI.skip hB1 (map_get (f := PD.d) hx_2) (.inl ((bang_of hx_4).trans (by simp_all)))), rfl, rfl, rfl, rfl, rfl, vW, rfl, q3, y3⟩
    ·
     have y4 : Chg (fun b => ((.slice A1 s.names.length s.names.length) : Value).ownBlock = some b) w2 w4 := (Chg.trans (Chg.trans (Chg.refl (fun b => ((.slice A1 s.names.length s.names.length) : Value).ownBlock = some b) w2) x1 (fun b hb hl => hb)) x2 (fun b hb hl => hb))
     refine go ?_
     exact ⟨rfl, 2 * ra1.count false + ag1.toNat, by exact mu_lt hm_f1 hag9 hB1.cnt, ag1, ra1, by rfl, (BO.next hB1 (by rw [s.gprods]; omega)), rfl, rfl, rfl, rfl, rfl, o0_f2, y4⟩
  ·
   have h1' := bS h1
   have hea := BO.done hG (by rw [h1] at hBO; exact hBO) (by rw [hl_ra] <;> rfl)
   refine go ?_
   refine xc_loopN (fun m_ f_ Wx => ∃ (j : Nat), m_ = s.names.length - j ∧ (j ≤ s.names.length) ∧ (idxO false ra 0 = idxO false (ra.drop j) j) ∧ f_ 1 = (.pointer (some ⟨w.heap.size, 0, none⟩)) ∧ f_ 4 = (.slice A1 s.names.length s.names.length) ∧ f_ 5 = (.bool ag) ∧ f_ 13 = (.bool ag) ∧ f_ 8 = (.int .i64 ((j : Nat))) ∧ Ext w3 Wx) (s.names.length) ?_ ?_
   ·
    exact ⟨0, (by omega), (by omega), rfl, rfl, rfl, rfl, rfl, vW, (Chg.refl _ _)⟩
   ·
    rintro m_ f3 w9 ⟨j, hm_f3, hj, hq, g1_f3, g4_f3, g5_f3, g13_f3, g8_f3, x5⟩
    have hx5 := x5.size
    rw [← usf g1_f3, ← usf g4_f3, ← usf g5_f3, ← usf g13_f3, ← usf g8_f3]
    refine go ?_
    refine y_if (fun h5 => ?_) (fun h5 => ?_)
    ·
     obtain ⟨x_3, g_3, hx_5⟩ := own_may (A := A1) j bools_len (by decide) (o0_f1.ext x5)
     obtain ⟨hx_6, hA_3, hc_3⟩ := hx_5 oM
     refine go ?_
     refine y_ix j hA_3 ?_
     refine y_lc (CellsL.at1 hc_3 0 rfl) ?_
     refine go ?_
     refine xc_cond (b := (!x_3)) rfl (fun h6 => ?_) (fun h6 => ?_)
     ·
      have h6' := bS h6
      refine go ?_
      refine y_r2 ?_
      have x6 : Ext w w9 := (Ext.trans (Chg.trans (Ext.trans e1 e2) x1 (fun b hb hl => (absurd hl (by have _h := lo1 b hb; omega)))) x5)
      exact ⟨by have h9 := hq.trans (idxO_hit hx_6 (by simp_all)); rw [hea] at h9; unfold prodE; rw [if_pos (by rw [h9]; omega), h9] <;> rfl, x6⟩
     ·
      have h6' := bS h6
      refine go ?_
      refine y_add ?_
      refine go ?_
      exact ⟨rfl, s.names.length - (j + 1), by omega, j + 1, by omega, (by omega), (hq.trans (idxO_next hx_6 (by simp_all))), rfl, rfl, rfl, rfl, vW, x5⟩
    ·
     refine go ?_
     refine y_r2 ?_
     have x7 : Ext w w9 := (Ext.trans (Chg.trans (Ext.trans e1 e2) x1 (fun b hb hl => (absurd hl (by have _h := lo1 b hb; omega)))) x5)
     exact ⟨by have h9 := hq.trans (idxO_end (by omega)); rw [hea] at h9; unfold prodE; rw [if_neg (by rw [h9]; decide)] <;> rfl, x7⟩
theorem nullableR_calls (s : SP) (w : World) (hS : SpR w s) (hG : GoodG s.g) :
    Calls Tryz.prog 137 #[(.agg #[(.slice s.lA s.lex.length s.lc), (.slice s.nA s.names.length s.nc), (.int .i64 s.start), (.slice s.pA s.prods.length s.pc)])] w (Ret (fun v w' => ∃ A' c', v = .slice A' (madeG (fun _ => false) s.g).length c' ∧ NewRow w w' 4 1 bools (madeG (fun _ => false) s.g) A' c' ∧ Ext w w')) := by
 have hfp := hS.fp.by; have hfl := hS.fl.by; have hfn := hS.fn.by
 refine calls_y (n := 60) Tryz.func137 ?_
 refine go ?_
 refine y_bx ?_
 intro w1 e1 z1 b1
 refine go ?_
 refine y_ld b1 ?_
 refine go ?_
 refine yOp (ox_makeD (n := s.names.length) (l := ((List.replicate s.names.length false))) (cs := bools) tE_144.h rfl rfl (by omega) (by omega) (made_bools _) ?_)
 intro A1 w2 o1 e2 lo1
 have he2 := e2.size
 refine go ?_
 refine xc_loopN (fun m_ f_ Wx => ∃ (ag : Bool) (ra : List Bool), m_ = 2 * ra.count false + ag.toNat ∧ (BO (fun _ => false) s.g ra ag) ∧ f_ 1 = (.pointer (some ⟨w.heap.size, 0, none⟩)) ∧ f_ 2 = (.slice none 0 0) ∧ f_ 3 = (.slice A1 s.names.length s.names.length) ∧ f_ 4 = (.bool ag) ∧ Vx.Own Wx 4 1 (.slice A1 s.names.length s.names.length) s.names.length (ra.flatMap bools) ∧ Chg (fun b => ((.slice A1 s.names.length s.names.length) : Value).ownBlock = some b) w2 Wx) (2 * ((List.replicate s.names.length false)).count false + 1) ?_ ?_
 ·
  exact ⟨true, (List.replicate s.names.length false), (by first | rfl | omega | simp), BO.start, rfl, rfl, rfl, rfl, o1, (Chg.refl _ _)⟩
 ·
  rintro m_ f1 w3 ⟨ag, ra, hm_f1, hBO, g1_f1, g2_f1, g3_f1, g4_f1, o0_f1, x1⟩
  have hx1 := x1.size
  have hl_ra : ra.length = s.names.length := by have _q := (o0_f1).len; rw [fm_len bools_len] at _q; omega
  rw [← usf g1_f1, ← usf g2_f1, ← usf g3_f1, ← usf g4_f1]
  refine go ?_
  refine xc_cond (b := ag) rfl (fun h1 => ?_) (fun h1 => ?_)
  ·
   have h1' := bS h1
   have hag9 : ag = true := h1
   refine go ?_
   refine xc_loopN (fun m_ f_ Wx => ∃ (i : Nat) (ag1 : Bool) (ra1 : List Bool), m_ = s.prods.length - i ∧ (i ≤ s.prods.length) ∧ (BI (fun _ => false) s.g (ra.count false) ra1 ag1 i) ∧ f_ 1 = (.pointer (some ⟨w.heap.size, 0, none⟩)) ∧ f_ 2 = (.slice none 0 0) ∧ f_ 3 = (.slice A1 s.names.length s.names.length) ∧ f_ 13 = (.bool ag) ∧ f_ 5 = (.int .i64 ((i : Nat))) ∧ f_ 4 = (.bool ag1) ∧ Vx.Own Wx 4 1 (.slice A1 s.names.length s.names.length) s.names.length (ra1.flatMap bools) ∧ Chg (fun b => ((.slice A1 s.names.length s.names.length) : Value).ownBlock = some b) w3 Wx) (s.prods.length) ?_ ?_
   ·
    exact ⟨0, false, ra, (by omega), (by omega), (BI.start hBO), rfl, rfl, rfl, rfl, vW, rfl, o0_f1, (Chg.refl _ _)⟩
   ·
    rintro m_ f2 w4 ⟨i, ag1, ra1, hm_f2, hi, hB1, g1_f2, g2_f2, g3_f2, g13_f2, g5_f2, g4_f2, o0_f2, x2⟩
    have hx2 := x2.size
    have hl_ra1 : ra1.length = s.names.length := by have _q := (o0_f2).len; rw [fm_len bools_len] at _q; omega
    rw [← usf g1_f2, ← usf g2_f2, ← usf g3_f2, ← usf g13_f2, ← usf g5_f2, ← usf g4_f2]
    have q1 := ((b1.ext e2).keep x1 (fun _h => o1.ne_blk (b1.ext e2) (by decide) _ _h rfl))
    have q2 := (q1.keep x2 (fun _h => o0_f1.ne_blk q1 (by decide) _ _h rfl))
    refine go ?_
    refine y_ld q2 ?_
    refine go ?_
    refine y_if (fun h2 => ?_) (fun h2 => ?_)
    ·
     refine go ?_
     refine y_ld q2 ?_
     have x3 : Ext w w4 := (Chg.trans (Chg.trans (Ext.trans e1 e2) x1 (fun b hb hl => (absurd hl (by have _h := lo1 b hb; omega)))) x2 (fun b hb hl => (absurd hl (by have _h := lo1 b hb; omega))))
     obtain ⟨x_1, g_1, o_1, hx_1⟩ := row_may (A := s.pA) (cs := PD.cs) i PD.len (by decide) (RowA.ext hS.prods x3)
     obtain ⟨hx_2, hA_1, hc_1⟩ := hx_1 oM
     have hfr_x_1 := (hS.fr _ (List.mem_of_getElem? hx_2)).le
     have hgd_x_1 := hG.2 _ (List.mem_of_getElem? (map_get (f := PD.d) hx_2))
     have hgl_x_1 : 0 ≤ x_1.left ∧ x_1.left < (s.names.length : Int) := ⟨hgd_x_1.1, hgd_x_1.2.1⟩
     refine go ?_
     refine y_ix i hA_1 ?_
     refine y_lN (vs := [(.int .i64 x_1.left), (.slice x_1.rA x_1.right.length x_1.rc)]) hc_1 ?_
     refine y_al ?_
     intro w5 e3 z3 b2
     refine y_st b2 ?_
     intro w6 e4 z4 b3
     replace b3 : Blk w6 w4.heap.size #[(.int .i64 x_1.left), (.slice x_1.rA x_1.right.length x_1.rc)] 37 := blk_full b3 rfl
     refine go ?_
     refine y_lN (vs := [(.int .i64 x_1.left), (.slice x_1.rA x_1.right.length x_1.rc)]) ⟨b3.cell rfl, b3.cell rfl, trivial⟩ ?_
     have x4 : Ext w w6 := (Ext.chg1 (Ext.trans x3 e3) e4 (by omega))
     have q3 := ((o0_f2.ext e3).keep1 e4 (fun k hk => (o0_f2.ext e3).ne_blk b2 (by decide) k hk))
     refine go ?_
     refine yCa (ret_mono (allR_calls x_1 A1 ra1 s.names.length s.names.length w6 (RowA.ext ((hS.right _ (List.mem_of_getElem? hx_2))) x4) hfr_x_1 (Own.rowO q3) hl_ra1 (fun y hy hk => symE_name (hgd_x_1.2.2 y hy) hk)) ?_)
     rintro _ w7 ⟨rfl, e5⟩
     have he5 := e5.size
     refine go ?_
     refine xc_loopN (fun m_ f_ Wx => ∃ (k : Nat) (ok : Bool), m_ = x_1.right.length - k ∧ (k ≤ x_1.right.length) ∧ (ok = (x_1.right.all (fun x => okS (fun _ => true) ra1 x) && (x_1.right.take k).all (fun x => decide (x.kind = 3)))) ∧ f_ 1 = (.pointer (some ⟨w.heap.size, 0, none⟩)) ∧ f_ 2 = (.slice none 0 0) ∧ f_ 3 = (.slice A1 s.names.length s.names.length) ∧ f_ 13 = (.bool ag) ∧ f_ 5 = (.int .i64 ((i : Nat))) ∧ f_ 4 = (.bool ag1) ∧ f_ 14 = (.int .i64 ((i : Nat))) ∧ f_ 15 = (.pointer (some ⟨w.heap.size, 3, none⟩)) ∧ f_ 16 = (.slice s.pA s.prods.length s.pc) ∧ f_ 17 = (.int .i64 (((s.prods.length : Nat) : Int))) ∧ f_ 18 = (.bool (decide (((i : Nat) : Int) < (((s.prods.length : Nat) : Int))))) ∧ f_ 21 = (.pointer (some ⟨w.heap.size, 3, none⟩)) ∧ f_ 22 = (.slice s.pA s.prods.length s.pc) ∧ f_ 23 = (.int .i64 ((i : Nat))) ∧ f_ 24 = (.pointer (some ⟨g_1, o_1 + i * 2, none⟩)) ∧ f_ 25 = (.agg #[(.int .i64 x_1.left), (.slice x_1.rA x_1.right.length x_1.rc)]) ∧ f_ 6 = (.pointer (some ⟨w4.heap.size, 0, none⟩)) ∧ f_ 26 = (.agg #[(.int .i64 x_1.left), (.slice x_1.rA x_1.right.length x_1.rc)]) ∧ f_ 27 = (.slice A1 s.names.length s.names.length) ∧ f_ 28 = (.bool ((x_1.right.all (fun x => okS (fun _ => true) ra1 x)))) ∧ f_ 8 = (.int .i64 ((k : Nat))) ∧ f_ 7 = (.bool ok) ∧ Ext w7 Wx) (x_1.right.length) ?_ ?_
     ·
      exact ⟨0, ((x_1.right.all (fun x => okS (fun _ => true) ra1 x))), (by omega), (by omega), (by simp), rfl, rfl, rfl, rfl, rfl, rfl, rfl, rfl, rfl, rfl, rfl, rfl, rfl, rfl, rfl, rfl, rfl, rfl, rfl, rfl, vW, rfl, (Chg.refl _ _)⟩
     ·
      rintro m_ f3 w8 ⟨k, ok, hm_f3, hk, hok, g1_f3, g2_f3, g3_f3, g13_f3, g5_f3, g4_f3, g14_f3, g15_f3, g16_f3, g17_f3, g18_f3, g21_f3, g22_f3, g23_f3, g24_f3, g25_f3, g6_f3, g26_f3, g27_f3, g28_f3, g8_f3, g7_f3, x5⟩
      have hx5 := x5.size
      rw [← usf g1_f3, ← usf g2_f3, ← usf g3_f3, ← usf g13_f3, ← usf g5_f3, ← usf g4_f3, ← usf g14_f3, ← usf g15_f3, ← usf g16_f3, ← usf g17_f3, ← usf g18_f3, ← usf g21_f3, ← usf g22_f3, ← usf g23_f3, ← usf g24_f3, ← usf g25_f3, ← usf g6_f3, ← usf g26_f3, ← usf g27_f3, ← usf g28_f3, ← usf g8_f3, ← usf g7_f3]
      refine go ?_
      refine y_ld ((b3.ext e5).ext x5) ?_
      refine go ?_
      refine y_if (fun h3 => ?_) (fun h3 => ?_)
      ·
       refine go ?_
       by_cases h4 : ok = true
       ·
        refine ysL (s := 37) (bT h4) ?_
        refine go ?_
        refine y_ld ((b3.ext e5).ext x5) ?_
        have x6 : Ext w w8 := (Ext.trans (Ext.trans x4 e5) x5)
        obtain ⟨x_2, g_2, o_2, hx_3⟩ := row_may (A := x_1.rA) (cs := Sym.cs) k Sym.len (by decide) (RowA.ext ((hS.right _ (List.mem_of_getElem? hx_2))) x6)
        obtain ⟨hx_4, hA_2, hc_2⟩ := hx_3 oM
        have hsy_x_2 := hgd_x_1.2.2 _ (List.mem_of_getElem? hx_4)
        have hsn_x_2 := symE_name hsy_x_2
        rw [show s.g.names = s.names.length from rfl] at hsn_x_2
        refine go ?_
        refine y_ix k hA_2 ?_
        refine go ?_
        refine y_lc (CellsL.at1 hc_2 0 rfl) ?_
        refine go ?_
        refine y_add ?_
        refine go ?_
        exact ⟨rfl, x_1.right.length - (k + 1), by omega, k + 1, ((decide ((x_2.kind : Int) = 3))), by omega, (by omega), (ok_next hok hx_4 (by simp_all)), rfl, rfl, rfl, rfl, rfl, rfl, rfl, rfl, rfl, rfl, rfl, rfl, rfl, rfl, rfl, rfl, rfl, rfl, rfl, rfl, vW, rfl, x5⟩
       ·
        refine ysL (s := 37) (bF (Bool.eq_false_iff.2 h4)) ?_
        refine go ?_
        refine y_add ?_
        obtain ⟨y9, hy9⟩ := get_ex (l := x_1.right) (i := k) (by omega)
        refine go ?_
        exact ⟨rfl, x_1.right.length - (k + 1), by omega, k + 1, false, by omega, (by omega), (ok_next hok hy9 (by simp_all)), rfl, rfl, rfl, rfl, rfl, rfl, rfl, rfl, rfl, rfl, rfl, rfl, rfl, rfl, rfl, rfl, rfl, rfl, rfl, rfl, vW, rfl, x5⟩
      ·
       refine go ?_
       by_cases h5 : ok = true
       ·
        refine ysL (s := 47) (bT h5) ?_
        refine go ?_
        refine y_ld ((b3.ext e5).ext x5) ?_
        obtain ⟨x_3, g_3, hx_5⟩ := own_may (A := A1) x_1.left.toNat bools_len (by decide) ((q3.ext e5).ext x5)
        obtain ⟨hx_6, hA_3, hc_3⟩ := hx_5 oM
        refine y_ix x_1.left.toNat hA_3 ?_
        refine y_lc (CellsL.at1 hc_3 0 rfl) ?_
        refine go ?_
        refine xc_cond (b := (!x_3)) rfl (fun h6 => ?_) (fun h6 => ?_)
        ·
         have h6' := bS h6
         refine go ?_
         refine y_ld ((b3.ext e5).ext x5) ?_
         refine y_ix x_1.left.toNat hA_3 ?_
         refine yNp (ox_stE (i := x_1.left.toNat) (off := 0) (vs := [(.bool true)]) (b := (true : Bool)) bools_len tS_4.h hA_3 rfl (v := (.bool true)) rfl rfl rfl rfl ((q3.ext e5).ext x5) hx_6 rfl (by decide) (by omega) ?_)
         intro w9 e6 z5 o2
         refine go ?_
         refine y_add ?_
         have y1 : Chg (fun b => ((.slice A1 s.names.length s.names.length) : Value).ownBlock = some b) w3 w9 := (Chg.trans (Chg.ext (Chg.ext (Chg.chg1 (Chg.ext (Chg.trans (Chg.refl (fun b => ((.slice A1 s.names.length s.names.length) : Value).ownBlock = some b) w3) x2 (fun b hb hl => hb)) e3) e4 (.inr (by omega))) e5) x5) e6 (fun b hb hl => hb))
         refine go ?_
         exact ⟨rfl, s.prods.length - (i + 1), by omega, i + 1, true, (ra1.set x_1.left.toNat true), by omega, (by omega), (BI.yes hG hB1 (map_get (f := PD.d) hx_2) ((bang_of hx_6).trans (by simp_all)) (by have h9 : ok = true := (by simp_all); rw [hok, List.take_of_length_le (by omega), null_ok] at h9; rw [List.all_eq_true] at h9; exact h9) (by rw [hl_ra1]; have := hgl_x_1; show x_1.left.toNat < _; omega)), rfl, rfl, rfl, rfl, vW, rfl, o2, y1⟩
        ·
         have h6' := bS h6
         refine go ?_
         refine y_add ?_
         have y2 : Chg (fun b => ((.slice A1 s.names.length s.names.length) : Value).ownBlock = some b) w3 w8 := (Chg.ext (Chg.ext (Chg.chg1 (Chg.ext (Chg.trans (Chg.refl (fun b => ((.slice A1 s.names.length s.names.length) : Value).ownBlock = some b) w3) x2 (fun b hb hl => hb)) e3) e4 (.inr (by omega))) e5) x5)
         refine go ?_
         exact ⟨rfl, s.prods.length - (i + 1), by omega, i + 1, ag1, ra1, by omega, (by omega), (BI.skip hB1 (map_get (f := PD.d) hx_2) (.inl ((bang_of hx_6).trans (by simp_all)))), rfl, rfl, rfl, rfl, vW, rfl, ((q3.ext e5).ext x5), y2⟩
       ·
        refine ysL (s := 47) (bF (Bool.eq_false_iff.2 h5)) ?_
        refine go ?_
        refine y_add ?_
        have y3 : Chg (fun b => ((.slice A1 s.names.length s.names.length) : Value).ownBlock = some b) w3 w8 := (Chg.ext (Chg.ext (Chg.chg1 (Chg.ext (Chg.trans (Chg.refl (fun b => ((.slice A1 s.names.length s.names.length) : Value).ownBlock = some b) w3) x2 (fun b hb hl => hb)) e3) e4 (.inr (by omega))) e5) x5)
        refine go ?_
        exact ⟨rfl, s.prods.length - (i + 1), by omega, i + 1, ag1, ra1, by omega, (by omega), (BI.skip hB1 (map_get (f := PD.d) hx_2) (.inr (fun h8 => by have h9 : ok = false := (by simp_all); rw [hok, List.take_of_length_le (by omega), null_ok] at h9; exact absurd (List.all_eq_true.2 h8) (by show ¬ x_1.right.all (fun x => okS (fun _ => false) ra1 x) = true; rw [h9]; decide)))), rfl, rfl, rfl, rfl, vW, rfl, ((q3.ext e5).ext x5), y3⟩
    ·
     have y4 : Chg (fun b => ((.slice A1 s.names.length s.names.length) : Value).ownBlock = some b) w2 w4 := (Chg.trans (Chg.trans (Chg.refl (fun b => ((.slice A1 s.names.length s.names.length) : Value).ownBlock = some b) w2) x1 (fun b hb hl => hb)) x2 (fun b hb hl => hb))
     refine go ?_
     exact ⟨rfl, 2 * ra1.count false + ag1.toNat, by exact mu_lt hm_f1 hag9 hB1.cnt, ag1, ra1, by rfl, (BO.next hB1 (by rw [s.gprods]; omega)), rfl, rfl, rfl, rfl, o0_f2, y4⟩
  ·
   have h1' := bS h1
   have hea := BO.done hG (by rw [h1] at hBO; exact hBO) (by rw [hl_ra] <;> rfl)
   refine go ?_
   refine y_r1 ?_
   have x7 : Ext w w3 := (Chg.trans (Ext.trans e1 e2) x1 (fun b hb hl => (absurd hl (by have _h := lo1 b hb; omega))))
   exact ⟨A1, s.names.length, by rw [← hea, hl_ra] <;> rfl, by  rw [← hea]; exact ⟨by rw [hl_ra]; exact o0_f1, fun k hk => by rw [hl_ra] at hk; have _h := lo1 k hk; omega⟩, x7⟩
def fE (v : Int) : Int := if v = 0 then 257 else v
theorem bang_mapE {h : List Int} {i : Nat} (hi : i < h.length) : (h.map fE)[i]! = fE (h[i]!) := by
  have h1 := List.getElem?_eq_getElem hi
  rw [bang_of h1, bang_of (map_get (f := fE) h1)]
def rngE (h : List Int) : Prop := ∀ v ∈ h, 0 ≤ v ∧ v ≤ 256
theorem fE_le {h : List Int} {i : Nat} (hr : rngE h) : fE (h[i]!) ≤ 257 := by
  have : 0 ≤ h[i]! ∧ h[i]! ≤ 256 := by
    by_cases hi : i < h.length
    · have h1 := List.getElem?_eq_getElem hi
      rw [bang_of h1]; exact hr _ (List.mem_of_getElem? h1)
    · rw [getElem!_def, List.getElem?_eq_none (by omega)]; exact ⟨by decide, by decide⟩
  unfold fE; split <;> omega
theorem sum_go {h : List Int} {l : List Sym} {k : Nat} {y : Sym} {n e : Int} (hy : l[k]? = some y) (hk : y.kind = 3) (he : h[y.n.toNat]? = some e) (h0 : e ≠ 0) (h1 : 1 ≤ e ∧ 1 ≤ n) : sumR (fun _ => 257) 256 (h.map fE) (l.drop k) (min n 257) = sumR (fun _ => 257) 256 (h.map fE) (l.drop (k + 1)) (min (n + e) 257) := by
  rw [sumR_next hy (m := e) (by rw [if_pos hk, bang_of (map_get (f := fE) he), fE, if_neg h0])]
  congr 1
  split <;> omega
theorem sum_full {h : List Int} (hr : rngE h) : ∀ (l : List Sym), sumR (fun _ => 257) 256 (h.map fE) l 257 = 257
  | [] => rfl
  | x :: r => by
    rw [sumR]
    have hv : 0 ≤ (if x.kind = 3 then (h.map fE)[x.n.toNat]! else 257) := by
      split
      · by_cases hi : x.n.toNat < h.length
        · rw [bang_mapE hi]
          have h1 := List.getElem?_eq_getElem hi
          rw [bang_of h1]
          have := hr _ (List.mem_of_getElem? h1)
          unfold fE; split <;> omega
        · rw [getElem!_def, List.getElem?_eq_none (by simp; omega)]; decide
      · decide
    have : (if (256 : Int) + 1 < 257 + (if x.kind = 3 then (h.map fE)[x.n.toNat]! else 257) then (256 : Int) + 1 else 257 + (if x.kind = 3 then (h.map fE)[x.n.toNat]! else 257)) = 257 := by
      split <;> omega
    rw [this]
    exact sum_full hr r
theorem sum_brk {h : List Int} (hr : rngE h) {l : List Sym} {k : Nat} {y : Sym} {n : Int} (hq : sumR (fun _ => 257) 256 (h.map fE) l 1 = sumR (fun _ => 257) 256 (h.map fE) (l.drop k) (min n 257)) (hn : 1 ≤ n) (hy : l[k]? = some y) (hb : y.kind ≠ 3 ∨ h[y.n.toNat]? = some 0) : sumR (fun _ => 257) 256 (h.map fE) l 1 = 257 := by
  rw [hq, sumR_next hy (m := 257) ?_]
  · rw [if_pos (by omega)]; exact sum_full hr _
  · split
    · rename_i hk
      rcases hb with hb | hb
      · exact absurd hk hb
      · rw [bang_of (map_get (f := fE) hb)]; rfl
    · rfl
structure EI (g : GD) (c0 : Nat) (h : List Int) (ag : Bool) (i : Nat) : Prop where
  le : leS g.names (sumsG 1 256 (fun _ => 257) g) (h.map fE)
  rng : rngE h
  cnt : sumN (h.map fE) ≤ c0 ∧ (ag = true → sumN (h.map fE) < c0)
  cl : ag = false → ∀ p ∈ g.prods.take i, fE (h[p.1.toNat]!) ≤ sumR (fun _ => 257) 256 (h.map fE) p.2 1
  len : h.length = g.names
structure EO (g : GD) (h : List Int) (ag : Bool) : Prop where
  le : leS g.names (sumsG 1 256 (fun _ => 257) g) (h.map fE)
  rng : rngE h
  cl : ag = false → ∀ p ∈ g.prods, fE (h[p.1.toNat]!) ≤ sumR (fun _ => 257) 256 (h.map fE) p.2 1
  len : h.length = g.names
section
variable {g : GD} {c0 i : Nat} {h : List Int} {ag : Bool} {p : P2} {n : Int}
theorem emp_stab (hG : GoodG g) : stabS 1 256 (fun _ => 257) g (sumsG 1 256 (fun _ => 257) g) ∧ ∀ v ∈ sumsG 1 256 (fun _ => 257) g, 0 ≤ v ∧ v ≤ 256 + 1 := sumsG_stab (add := 1) (most := 256) (τ := fun _ => 257) hG ⟨by decide, by decide⟩ ⟨by decide, by decide⟩ (fun _ => ⟨by decide, by decide⟩)
theorem EO.start (hG : GoodG g) : EO g (List.replicate g.names 0) true := by
  refine ⟨fun i hi => ?_, fun v hv => by rw [List.eq_of_mem_replicate hv]; decide, (fun h => by cases h), List.length_replicate⟩
  rw [bang_mapE (by simpa using hi), bang_of (l := List.replicate g.names (0 : Int)) (x := 0) (by rw [List.getElem?_replicate, if_pos hi])]
  have hl := sumsG_len (add := 1) (most := 256) (τ := fun _ => 257) hG
  have h1 := List.getElem?_eq_getElem (l := sumsG 1 256 (fun _ => 257) g) (i := i) (by omega)
  rw [bang_of h1]
  exact ((emp_stab hG).2 _ (List.mem_of_getElem? h1)).2
theorem EI.start (hB : EO g h ag) : EI g (sumN (h.map fE)) h false 0 := ⟨hB.le, hB.rng, ⟨Nat.le_refl _, fun h => by cases h⟩, fun _ p hp => by simp at hp, hB.len⟩
theorem EO.next (hB : EI g c0 h ag i) (hi : g.prods.length ≤ i) : EO g h ag := ⟨hB.le, hB.rng, fun h9 p hp => hB.cl h9 p (by rw [List.take_of_length_le hi]; exact hp), hB.len⟩
theorem EO.done (hG : GoodG g) (hB : EO g h false) (hl : h.length = g.names) : h.map fE = sumsG 1 256 (fun _ => 257) g := by
  have hs := emp_stab hG
  have hl2 := sumsG_len (add := 1) (most := 256) (τ := fun _ => 257) hG
  have hT : stabS 1 256 (fun _ => 257) g (h.map fE) := fun p hp => by
    have := hG.2 p hp
    rw [bang_mapE (by omega)]; exact hB.cl rfl p hp
  have hm := sumsG_most hG hT (fun i hi => by rw [bang_mapE (by omega)]; exact fE_le hB.rng)
  apply List.ext_getElem?
  intro j
  by_cases hj : j < g.names
  · have h1 := List.getElem?_eq_getElem (l := h.map fE) (i := j) (by simp; omega)
    have h2 := List.getElem?_eq_getElem (l := sumsG 1 256 (fun _ => 257) g) (i := j) (by omega)
    have h3 := hm j hj
    have h4 := hB.le j hj
    rw [bang_of h1, bang_of h2] at h3 h4
    rw [h1, h2]; congr 1; omega
  · rw [List.getElem?_eq_none (by simp; omega), List.getElem?_eq_none (by omega)]
theorem EI.yes (hG : GoodG g) (hB : EI g c0 h ag i) (hp : g.prods[i]? = some p) (hs : sumR (fun _ => 257) 256 (h.map fE) p.2 1 = n) (hr : 1 ≤ n ∧ n ≤ 256) (hv : n < fE (h[p.1.toNat]!)) (hn : p.1.toNat < h.length) : EI g c0 (h.set p.1.toNat n) true (i + 1) := by
  have hm : (h.set p.1.toNat n).map fE = (h.map fE).set p.1.toNat n := by rw [List.map_set, fE, if_neg (by omega)]
  have hc : sumN ((h.set p.1.toNat n).map fE) < sumN (h.map fE) := by
    have := sumN_set (h := h.map fE) (i := p.1.toNat) (n := n) (by simpa using hn) (by rw [bang_mapE hn]; exact hv) (by omega)
    rw [hm]; exact this
  have h1 := hB.cnt.1
  refine ⟨?_, fun v h9 => ?_, ⟨by omega, fun _ => by omega⟩, (fun h9 => by cases h9), by rw [List.length_set]; exact hB.len⟩
  · rw [hm]
    refine hB.le.set ?_
    rw [← hs]
    exact Int.le_trans ((emp_stab hG).1 p (List.mem_of_getElem? hp)) (sumR_mono hB.le (fun x hx hk => by have := symE_name ((hG.2 p (List.mem_of_getElem? hp)).2.2 x hx) hk; omega) (Int.le_refl _))
  · rcases List.mem_or_eq_of_mem_set h9 with h9 | h9
    · exact hB.rng v h9
    · rw [h9]; omega
theorem EI.skip (hB : EI g c0 h ag i) (hp : g.prods[i]? = some p) (he : fE (h[p.1.toNat]!) ≤ sumR (fun _ => 257) 256 (h.map fE) p.2 1) : EI g c0 h ag (i + 1) :=
  ⟨hB.le, hB.rng, hB.cnt, fun h9 q hq => (take_succ_mem hp hq).elim (fun hq => hB.cl h9 q hq) fun e => by rw [e]; exact he, hB.len⟩
end
theorem emptiesR_calls (s : SP) (w : World) (hS : SpR w s) (hG : GoodG s.g) :
    Calls Tryz.prog 136 #[(.agg #[(.slice s.lA s.lex.length s.lc), (.slice s.nA s.names.length s.nc), (.int .i64 s.start), (.slice s.pA s.prods.length s.pc)])] w (Ret (fun v w' => ∃ e A' c', v = .slice A' e.length c' ∧ e.map fE = sumsG 1 256 (fun _ => 257) s.g ∧ NewRow w w' 3 1 ints e A' c' ∧ e.length = s.names.length ∧ (∀ v ∈ e, 0 ≤ v ∧ v ≤ 256) ∧ Ext w w')) := by
 have hfp := hS.fp.by; have hfl := hS.fl.by; have hfn := hS.fn.by
 refine calls_y (n := 88) Tryz.func136 ?_
 refine go ?_
 refine y_bx ?_
 intro w1 e1 z1 b1
 refine go ?_
 refine y_ld b1 ?_
 refine go ?_
 refine yOp (ox_makeD (n := s.names.length) (l := ((List.replicate s.names.length (0 : Int)))) (cs := ints) tE_27.h rfl rfl (by omega) (by omega) (made_ints _) ?_)
 intro A1 w2 o1 e2 lo1
 have he2 := e2.size
 refine go ?_
 refine xc_loopN (fun m_ f_ Wx => ∃ (ag : Bool) (ra : List Int), m_ = 2 * sumN (ra.map fE) + ag.toNat ∧ (EO s.g ra ag) ∧ f_ 1 = (.pointer (some ⟨w.heap.size, 0, none⟩)) ∧ f_ 2 = (.slice none 0 0) ∧ f_ 3 = (.slice A1 s.names.length s.names.length) ∧ f_ 4 = (.bool ag) ∧ Vx.Own Wx 3 1 (.slice A1 s.names.length s.names.length) s.names.length (ra.flatMap ints) ∧ Chg (fun b => ((.slice A1 s.names.length s.names.length) : Value).ownBlock = some b) w2 Wx) (2 * sumN ((((List.replicate s.names.length (0 : Int)))).map fE) + 1) ?_ ?_
 ·
  exact ⟨true, (List.replicate s.names.length (0 : Int)), (by first | rfl | omega | simp), (EO.start hG), rfl, rfl, rfl, rfl, o1, (Chg.refl _ _)⟩
 ·
  rintro m_ f1 w3 ⟨ag, ra, hm_f1, hEO, g1_f1, g2_f1, g3_f1, g4_f1, o0_f1, x1⟩
  have hx1 := x1.size
  have hl_ra : ra.length = s.names.length := by have _q := (o0_f1).len; rw [fm_len ints_len] at _q; omega
  rw [← usf g1_f1, ← usf g2_f1, ← usf g3_f1, ← usf g4_f1]
  refine go ?_
  refine xc_cond (b := ag) rfl (fun h1 => ?_) (fun h1 => ?_)
  ·
   have h1' := bS h1
   have hag9 : ag = true := h1
   refine go ?_
   refine xc_loopN (fun m_ f_ Wx => ∃ (i : Nat) (ag1 : Bool) (ra1 : List Int), m_ = s.prods.length - i ∧ (i ≤ s.prods.length) ∧ (EI s.g (sumN (ra.map fE)) ra1 ag1 i) ∧ f_ 1 = (.pointer (some ⟨w.heap.size, 0, none⟩)) ∧ f_ 2 = (.slice none 0 0) ∧ f_ 3 = (.slice A1 s.names.length s.names.length) ∧ f_ 13 = (.bool ag) ∧ f_ 5 = (.int .i64 ((i : Nat))) ∧ f_ 4 = (.bool ag1) ∧ Vx.Own Wx 3 1 (.slice A1 s.names.length s.names.length) s.names.length (ra1.flatMap ints) ∧ Chg (fun b => ((.slice A1 s.names.length s.names.length) : Value).ownBlock = some b) w3 Wx) (s.prods.length) ?_ ?_
   ·
    exact ⟨0, false, ra, (by omega), (by omega), (EI.start hEO), rfl, rfl, rfl, rfl, vW, rfl, o0_f1, (Chg.refl _ _)⟩
   ·
    rintro m_ f2 w4 ⟨i, ag1, ra1, hm_f2, hi, hB1, g1_f2, g2_f2, g3_f2, g13_f2, g5_f2, g4_f2, o0_f2, x2⟩
    have hx2 := x2.size
    have hl_ra1 : ra1.length = s.names.length := by have _q := (o0_f2).len; rw [fm_len ints_len] at _q; omega
    rw [← usf g1_f2, ← usf g2_f2, ← usf g3_f2, ← usf g13_f2, ← usf g5_f2, ← usf g4_f2]
    have q1 := ((b1.ext e2).keep x1 (fun _h => o1.ne_blk (b1.ext e2) (by decide) _ _h rfl))
    have q2 := (q1.keep x2 (fun _h => o0_f1.ne_blk q1 (by decide) _ _h rfl))
    refine go ?_
    refine y_ld q2 ?_
    refine go ?_
    refine y_if (fun h2 => ?_) (fun h2 => ?_)
    ·
     refine go ?_
     refine y_ld q2 ?_
     have x3 : Ext w w4 := (Chg.trans (Chg.trans (Ext.trans e1 e2) x1 (fun b hb hl => (absurd hl (by have _h := lo1 b hb; omega)))) x2 (fun b hb hl => (absurd hl (by have _h := lo1 b hb; omega))))
     obtain ⟨x_1, g_1, o_1, hx_1⟩ := row_may (A := s.pA) (cs := PD.cs) i PD.len (by decide) (RowA.ext hS.prods x3)
     obtain ⟨hx_2, hA_1, hc_1⟩ := hx_1 oM
     have hfr_x_1 := (hS.fr _ (List.mem_of_getElem? hx_2)).le
     have hgd_x_1 := hG.2 _ (List.mem_of_getElem? (map_get (f := PD.d) hx_2))
     have hgl_x_1 : 0 ≤ x_1.left ∧ x_1.left < (s.names.length : Int) := ⟨hgd_x_1.1, hgd_x_1.2.1⟩
     refine go ?_
     refine y_ix i hA_1 ?_
     refine y_lN (vs := [(.int .i64 x_1.left), (.slice x_1.rA x_1.right.length x_1.rc)]) hc_1 ?_
     refine y_al ?_
     intro w5 e3 z3 b2
     refine y_st b2 ?_
     intro w6 e4 z4 b3
     replace b3 : Blk w6 w4.heap.size #[(.int .i64 x_1.left), (.slice x_1.rA x_1.right.length x_1.rc)] 37 := blk_full b3 rfl
     refine go ?_
     refine xc_loopN (fun m_ f_ Wx => ∃ (k : Nat) (n : Int), m_ = x_1.right.length - k ∧ (k ≤ x_1.right.length) ∧ (sumR (fun _ => 257) 256 (ra1.map fE) x_1.right 1 = sumR (fun _ => 257) 256 (ra1.map fE) (x_1.right.drop k) (min n 257)) ∧ (1 ≤ n ∧ n ≤ 1 + 256 * (k : Int)) ∧ f_ 1 = (.pointer (some ⟨w.heap.size, 0, none⟩)) ∧ f_ 2 = (.slice none 0 0) ∧ f_ 3 = (.slice A1 s.names.length s.names.length) ∧ f_ 13 = (.bool ag) ∧ f_ 5 = (.int .i64 ((i : Nat))) ∧ f_ 4 = (.bool ag1) ∧ f_ 14 = (.int .i64 ((i : Nat))) ∧ f_ 15 = (.pointer (some ⟨w.heap.size, 3, none⟩)) ∧ f_ 16 = (.slice s.pA s.prods.length s.pc) ∧ f_ 17 = (.int .i64 (((s.prods.length : Nat) : Int))) ∧ f_ 18 = (.bool (decide (((i : Nat) : Int) < (((s.prods.length : Nat) : Int))))) ∧ f_ 21 = (.pointer (some ⟨w.heap.size, 3, none⟩)) ∧ f_ 22 = (.slice s.pA s.prods.length s.pc) ∧ f_ 23 = (.int .i64 ((i : Nat))) ∧ f_ 24 = (.pointer (some ⟨g_1, o_1 + i * 2, none⟩)) ∧ f_ 25 = (.agg #[(.int .i64 x_1.left), (.slice x_1.rA x_1.right.length x_1.rc)]) ∧ f_ 6 = (.pointer (some ⟨w4.heap.size, 0, none⟩)) ∧ f_ 8 = (.int .i64 ((k : Nat))) ∧ f_ 7 = (.int .i64 n) ∧ Ext w6 Wx) (x_1.right.length) ?_ ?_
     ·
      exact ⟨0, 1, (by omega), (by omega), rfl, (by omega), rfl, rfl, rfl, rfl, rfl, rfl, rfl, rfl, rfl, rfl, rfl, rfl, rfl, rfl, rfl, rfl, rfl, vW, vW, (Chg.refl _ _)⟩
     ·
      rintro m_ f3 w7 ⟨k, n, hm_f3, hk, hq, hn, g1_f3, g2_f3, g3_f3, g13_f3, g5_f3, g4_f3, g14_f3, g15_f3, g16_f3, g17_f3, g18_f3, g21_f3, g22_f3, g23_f3, g24_f3, g25_f3, g6_f3, g8_f3, g7_f3, x4⟩
      have hx4 := x4.size
      rw [← usf g1_f3, ← usf g2_f3, ← usf g3_f3, ← usf g13_f3, ← usf g5_f3, ← usf g4_f3, ← usf g14_f3, ← usf g15_f3, ← usf g16_f3, ← usf g17_f3, ← usf g18_f3, ← usf g21_f3, ← usf g22_f3, ← usf g23_f3, ← usf g24_f3, ← usf g25_f3, ← usf g6_f3, ← usf g8_f3, ← usf g7_f3]
      refine go ?_
      refine y_ld (b3.ext x4) ?_
      refine go ?_
      refine y_if (fun h3 => ?_) (fun h3 => ?_)
      ·
       refine go ?_
       refine y_ld (b3.ext x4) ?_
       have x5 : Ext w w7 := (Ext.trans (Ext.chg1 (Ext.trans x3 e3) e4 (by omega)) x4)
       obtain ⟨x_2, g_2, o_2, hx_3⟩ := row_may (A := x_1.rA) (cs := Sym.cs) k Sym.len (by decide) (RowA.ext ((hS.right _ (List.mem_of_getElem? hx_2))) x5)
       obtain ⟨hx_4, hA_2, hc_2⟩ := hx_3 oM
       have hsy_x_2 := hgd_x_1.2.2 _ (List.mem_of_getElem? hx_4)
       have hsn_x_2 := symE_name hsy_x_2
       rw [show s.g.names = s.names.length from rfl] at hsn_x_2
       refine go ?_
       refine y_ix k hA_2 ?_
       refine go ?_
       refine y_lc (CellsL.at1 hc_2 0 rfl) ?_
       refine go ?_
       by_cases h4 : (x_2.kind : Int) ≠ 3
       ·
        have hsn9 := hsn_x_2
        first | have hnr := hsn9 (by omega) | skip
        refine ysL (s := 40) (bT (decide_eq_true h4)) ?_
        have hsm : sumR (fun _ => 257) 256 (ra1.map fE) x_1.right 1 = 257 := sum_brk hB1.rng hq hn.1 hx_4 (.inl (by omega))
        refine go ?_
        refine ysL (s := 65) (bF (by decide : decide ((257 : Int) ≤ 256) = false)) ?_
        refine go ?_
        refine y_add ?_
        have q3 := ((o0_f2.ext e3).keep1 e4 (fun k hk => (o0_f2.ext e3).ne_blk b2 (by decide) k hk))
        have y1 : Chg (fun b => ((.slice A1 s.names.length s.names.length) : Value).ownBlock = some b) w3 w7 := (Chg.ext (Chg.chg1 (Chg.ext (Chg.trans (Chg.refl (fun b => ((.slice A1 s.names.length s.names.length) : Value).ownBlock = some b) w3) x2 (fun b hb hl => hb)) e3) e4 (.inr (by omega))) x4)
        refine go ?_
        exact ⟨rfl, s.prods.length - (i + 1), by omega, i + 1, ag1, ra1, by omega, (by omega), (EI.skip hB1 (map_get (f := PD.d) hx_2) (by rw [show sumR (fun _ => 257) 256 (ra1.map fE) x_1.d.2 1 = 257 from hsm]; exact fE_le hB1.rng)), rfl, rfl, rfl, rfl, vW, rfl, (q3.ext x4), y1⟩
       ·
        have hsn9 := hsn_x_2
        first | have hnr := hsn9 (by omega) | skip
        refine ysL (s := 40) (bF (decide_eq_false h4)) ?_
        refine go ?_
        refine y_ld (b3.ext x4) ?_
        refine go ?_
        refine y_ix k hA_2 ?_
        refine go ?_
        refine y_lc (CellsL.at1 hc_2 1 rfl) ?_
        have q4 := ((o0_f2.ext e3).keep1 e4 (fun k hk => (o0_f2.ext e3).ne_blk b2 (by decide) k hk))
        obtain ⟨x_3, g_3, hx_5⟩ := own_may (A := A1) x_2.n.toNat ints_len (by decide) (q4.ext x4)
        obtain ⟨hx_6, hA_3, hc_3⟩ := hx_5 oM
        have hre_x_3 := hB1.rng _ (List.mem_of_getElem? hx_6)
        refine y_ix x_2.n.toNat hA_3 ?_
        refine y_lc (CellsL.at1 hc_3 0 rfl) ?_
        refine go ?_
        refine y_if (fun h5 => ?_) (fun h5 => ?_)
        ·
         have hsm : sumR (fun _ => 257) 256 (ra1.map fE) x_1.right 1 = 257 := sum_brk hB1.rng hq hn.1 hx_4 (.inr (hx_6.trans (congrArg some (by omega))))
         refine go ?_
         refine ysL (s := 65) (bF (by decide : decide ((257 : Int) ≤ 256) = false)) ?_
         refine go ?_
         refine y_add ?_
         have y2 : Chg (fun b => ((.slice A1 s.names.length s.names.length) : Value).ownBlock = some b) w3 w7 := (Chg.ext (Chg.chg1 (Chg.ext (Chg.trans (Chg.refl (fun b => ((.slice A1 s.names.length s.names.length) : Value).ownBlock = some b) w3) x2 (fun b hb hl => hb)) e3) e4 (.inr (by omega))) x4)
         refine go ?_
         exact ⟨rfl, s.prods.length - (i + 1), by omega, i + 1, ag1, ra1, by omega, (by omega), (EI.skip hB1 (map_get (f := PD.d) hx_2) (by rw [show sumR (fun _ => 257) 256 (ra1.map fE) x_1.d.2 1 = 257 from hsm]; exact fE_le hB1.rng)), rfl, rfl, rfl, rfl, vW, rfl, (q4.ext x4), y2⟩
        ·
         refine go ?_
         refine y_ld (b3.ext x4) ?_
         refine go ?_
         refine y_ix k hA_2 ?_
         refine go ?_
         refine y_lc (CellsL.at1 hc_2 1 rfl) ?_
         refine y_ix x_2.n.toNat hA_3 ?_
         refine y_lc (CellsL.at1 hc_3 0 rfl) ?_
         refine y_add ?_
         refine go ?_
         refine y_add ?_
         refine go ?_
         exact ⟨rfl, x_1.right.length - (k + 1), by omega, k + 1, (n + x_3), by omega, (by omega), (hq.trans (sum_go hx_4 (by omega) hx_6 (by omega) (by omega))), (by omega), rfl, rfl, rfl, rfl, rfl, rfl, rfl, rfl, rfl, rfl, rfl, rfl, rfl, rfl, rfl, rfl, rfl, vW, vW, x4⟩
      ·
       have hsm : sumR (fun _ => 257) 256 (ra1.map fE) x_1.right 1 = min n 257 := by rw [hq, List.drop_of_length_le (by omega)] <;> rfl
       refine go ?_
       by_cases h6 : (n : Int) ≤ 256
       ·
        refine ysL (s := 65) (bT (decide_eq_true h6)) ?_
        refine go ?_
        refine y_ld (b3.ext x4) ?_
        have q5 := ((o0_f2.ext e3).keep1 e4 (fun k hk => (o0_f2.ext e3).ne_blk b2 (by decide) k hk))
        obtain ⟨x_4, g_4, hx_7⟩ := own_may (A := A1) x_1.left.toNat ints_len (by decide) (q5.ext x4)
        obtain ⟨hx_8, hA_4, hc_4⟩ := hx_7 oM
        have hre_x_4 := hB1.rng _ (List.mem_of_getElem? hx_8)
        refine y_ix x_1.left.toNat hA_4 ?_
        refine y_lc (CellsL.at1 hc_4 0 rfl) ?_
        refine go ?_
        by_cases h7 : (x_4 : Int) = 0
        ·
         refine ysL (s := 72) (bT (decide_eq_true h7)) ?_
         refine go ?_
         refine y_ld (b3.ext x4) ?_
         refine go ?_
         refine y_ix x_1.left.toNat hA_4 ?_
         refine yNp (ox_stE (i := x_1.left.toNat) (off := 0) (vs := [(.int .i64 n)]) (b := (n : Int)) ints_len tS_3.h hA_4 rfl (v := (.int .i64 n)) rfl rfl rfl rfl (q5.ext x4) hx_8 rfl (by decide) (by omega) ?_)
         intro w8 e5 z5 o2
         refine go ?_
         refine y_add ?_
         have y3 : Chg (fun b => ((.slice A1 s.names.length s.names.length) : Value).ownBlock = some b) w3 w8 := (Chg.trans (Chg.ext (Chg.chg1 (Chg.ext (Chg.trans (Chg.refl (fun b => ((.slice A1 s.names.length s.names.length) : Value).ownBlock = some b) w3) x2 (fun b hb hl => hb)) e3) e4 (.inr (by omega))) x4) e5 (fun b hb hl => hb))
         refine go ?_
         exact ⟨rfl, s.prods.length - (i + 1), by omega, i + 1, true, (ra1.set x_1.left.toNat n), by omega, (by omega), (EI.yes hG hB1 (map_get (f := PD.d) hx_2) (n := n) (hsm.trans (by omega)) (by omega) (by show n < fE (ra1[x_1.left.toNat]!); rw [bang_of hx_8]; unfold fE; split <;> omega) (by rw [hl_ra1]; have := hgl_x_1; show x_1.left.toNat < _; omega)), rfl, rfl, rfl, rfl, vW, rfl, o2, y3⟩
        ·
         refine ysL (s := 72) (bF (decide_eq_false h7)) ?_
         refine go ?_
         refine y_ld (b3.ext x4) ?_
         refine y_ix x_1.left.toNat hA_4 ?_
         refine y_lc (CellsL.at1 hc_4 0 rfl) ?_
         refine go ?_
         refine y_if (fun h8 => ?_) (fun h8 => ?_)
         ·
          refine go ?_
          refine y_ld (b3.ext x4) ?_
          refine go ?_
          refine y_ix x_1.left.toNat hA_4 ?_
          refine yNp (ox_stE (i := x_1.left.toNat) (off := 0) (vs := [(.int .i64 n)]) (b := (n : Int)) ints_len tS_3.h hA_4 rfl (v := (.int .i64 n)) rfl rfl rfl rfl (q5.ext x4) hx_8 rfl (by decide) (by omega) ?_)
          intro w9 e6 z6 o3
          refine go ?_
          refine y_add ?_
          have y4 : Chg (fun b => ((.slice A1 s.names.length s.names.length) : Value).ownBlock = some b) w3 w9 := (Chg.trans (Chg.ext (Chg.chg1 (Chg.ext (Chg.trans (Chg.refl (fun b => ((.slice A1 s.names.length s.names.length) : Value).ownBlock = some b) w3) x2 (fun b hb hl => hb)) e3) e4 (.inr (by omega))) x4) e6 (fun b hb hl => hb))
          refine go ?_
          exact ⟨rfl, s.prods.length - (i + 1), by omega, i + 1, true, (ra1.set x_1.left.toNat n), by omega, (by omega), (EI.yes hG hB1 (map_get (f := PD.d) hx_2) (n := n) (hsm.trans (by omega)) (by omega) (by show n < fE (ra1[x_1.left.toNat]!); rw [bang_of hx_8]; unfold fE; split <;> omega) (by rw [hl_ra1]; have := hgl_x_1; show x_1.left.toNat < _; omega)), rfl, rfl, rfl, rfl, vW, rfl, o3, y4⟩
         ·
          refine go ?_
          refine y_add ?_
          have y5 : Chg (fun b => ((.slice A1 s.names.length s.names.length) : Value).ownBlock = some b) w3 w7 := (Chg.ext (Chg.chg1 (Chg.ext (Chg.trans (Chg.refl (fun b => ((.slice A1 s.names.length s.names.length) : Value).ownBlock = some b) w3) x2 (fun b hb hl => hb)) e3) e4 (.inr (by omega))) x4)
          refine go ?_
          exact ⟨rfl, s.prods.length - (i + 1), by omega, i + 1, ag1, ra1, by omega, (by omega), (EI.skip hB1 (map_get (f := PD.d) hx_2) (by rw [show sumR (fun _ => 257) 256 (ra1.map fE) x_1.d.2 1 = min n 257 from hsm]; show fE (ra1[x_1.left.toNat]!) ≤ _; rw [bang_of hx_8]; have h9 := hB1.rng _ (List.mem_of_getElem? hx_8); unfold fE; split <;> omega)), rfl, rfl, rfl, rfl, vW, rfl, (q5.ext x4), y5⟩
       ·
        refine ysL (s := 65) (bF (decide_eq_false h6)) ?_
        refine go ?_
        refine y_add ?_
        have q6 := ((o0_f2.ext e3).keep1 e4 (fun k hk => (o0_f2.ext e3).ne_blk b2 (by decide) k hk))
        have y6 : Chg (fun b => ((.slice A1 s.names.length s.names.length) : Value).ownBlock = some b) w3 w7 := (Chg.ext (Chg.chg1 (Chg.ext (Chg.trans (Chg.refl (fun b => ((.slice A1 s.names.length s.names.length) : Value).ownBlock = some b) w3) x2 (fun b hb hl => hb)) e3) e4 (.inr (by omega))) x4)
        refine go ?_
        exact ⟨rfl, s.prods.length - (i + 1), by omega, i + 1, ag1, ra1, by omega, (by omega), (EI.skip hB1 (map_get (f := PD.d) hx_2) (by rw [show sumR (fun _ => 257) 256 (ra1.map fE) x_1.d.2 1 = min n 257 from hsm]; have h9 := fE_le (i := x_1.left.toNat) hB1.rng; show fE (ra1[x_1.left.toNat]!) ≤ _; omega)), rfl, rfl, rfl, rfl, vW, rfl, (q6.ext x4), y6⟩
    ·
     have y7 : Chg (fun b => ((.slice A1 s.names.length s.names.length) : Value).ownBlock = some b) w2 w4 := (Chg.trans (Chg.trans (Chg.refl (fun b => ((.slice A1 s.names.length s.names.length) : Value).ownBlock = some b) w2) x1 (fun b hb hl => hb)) x2 (fun b hb hl => hb))
     refine go ?_
     exact ⟨rfl, 2 * sumN (ra1.map fE) + ag1.toNat, by exact mu_lt hm_f1 hag9 hB1.cnt, ag1, ra1, by rfl, (EO.next hB1 (by rw [s.gprods]; omega)), rfl, rfl, rfl, rfl, o0_f2, y7⟩
  ·
   have h1' := bS h1
   have hea := EO.done hG (by rw [h1] at hEO; exact hEO) (by rw [hl_ra] <;> rfl)
   refine go ?_
   refine y_r1 ?_
   have x6 : Ext w w3 := (Chg.trans (Ext.trans e1 e2) x1 (fun b hb hl => (absurd hl (by have _h := lo1 b hb; omega))))
   exact ⟨ra, A1, s.names.length, by rw [hl_ra] <;> rfl, hea, by exact ⟨by rw [hl_ra]; exact o0_f1, fun k hk => by rw [hl_ra] at hk; have _h := lo1 k hk; omega⟩, hl_ra, hEO.rng, x6⟩
def emptE (g : GD) : Int × Int := if 0 ≤ fullR (madeG (fun _ => false) g) (sumsG 1 256 (fun _ => 257) g) 0 then (6, fullR (madeG (fun _ => false) g) (sumsG 1 256 (fun _ => 257) g) 0) else (0, 0)
def checkS (g : GD) : Int × Int := if (indG g).1 = 0 then (if (reachedE g).1 = 0 then (if (prodE g).1 = 0 then emptE g else prodE g) else reachedE g) else indG g
theorem check_as {g : GD} (h : longG g = false) : checkE g = checkS g := by
  unfold checkE checkS prodE emptE
  rw [if_neg (by rw [h]; decide)]
  by_cases h1 : (indG g).1 = 0
  · rw [if_neg (by omega), if_pos h1]
    by_cases h2 : (reachedE g).1 = 0
    · rw [if_neg (by omega), if_pos h2]
      by_cases h3 : 0 ≤ idxO false (madeG (fun _ => true) g) 0
      · simp [h3]
      · simp [h3]
    · rw [if_pos h2, if_neg h2]
  · rw [if_pos h1, if_neg h1]
instance pf_103 : PlF Tryz.prog 103 := ⟨by kernel_rfl⟩
instance pf_104 : PlF Tryz.prog 104 := ⟨by kernel_rfl⟩
instance pf_105 : PlF Tryz.prog 105 := ⟨by kernel_rfl⟩
instance pf_106 : PlF Tryz.prog 106 := ⟨by kernel_rfl⟩
instance pf_107 : PlF Tryz.prog 107 := ⟨by kernel_rfl⟩
instance pf_136 : PlF Tryz.prog 136 := ⟨by kernel_rfl⟩
instance pf_137 : PlF Tryz.prog 137 := ⟨by kernel_rfl⟩
theorem emptiedR_calls (s : SP) (w : World) (hS : SpR w s) (hG : GoodG s.g) :
    Calls Tryz.prog 107 #[(.agg #[(.slice s.lA s.lex.length s.lc), (.slice s.nA s.names.length s.nc), (.int .i64 s.start), (.slice s.pA s.prods.length s.pc)])] w (Ret (fun v w' => v = .tuple #[.int .i64 (emptE s.g).2, .int .i64 (emptE s.g).1] ∧ Ext w w')) := by
 have hfn := hS.fn.by
 refine calls_y (n := 29) Tryz.func107 ?_
 refine go ?_
 refine y_bx ?_
 intro w1 e1 z1 b1
 refine go ?_
 refine y_lN (vs := [(.slice s.lA s.lex.length s.lc), (.slice s.nA s.names.length s.nc), (.int .i64 s.start), (.slice s.pA s.prods.length s.pc)]) ⟨b1.cell rfl, b1.cell rfl, b1.cell rfl, b1.cell rfl, trivial⟩ ?_
 refine yCa (ret_mono (emptiesR_calls s w1 (hS.ext e1) hG) ?_)
 rintro _ w2 ⟨es, A1, c1, rfl, hea, hn1, hel, her, e2⟩
 have he2 := e2.size
 refine go ?_
 refine y_lN (vs := [(.slice s.lA s.lex.length s.lc), (.slice s.nA s.names.length s.nc), (.int .i64 s.start), (.slice s.pA s.prods.length s.pc)]) ⟨(b1.ext e2).cell rfl, (b1.ext e2).cell rfl, (b1.ext e2).cell rfl, (b1.ext e2).cell rfl, trivial⟩ ?_
 have x1 : Ext w w2 := (Ext.trans e1 e2)
 refine yCa (ret_mono (nullableR_calls s w2 (hS.ext x1) hG) ?_)
 rintro _ w3 ⟨A2, c2, rfl, hn2, e3⟩
 have he3 := e3.size
 have hnl := madeG_len (fun _ => false) s.g; rw [show s.g.names = s.names.length from rfl] at hnl
 refine go ?_
 refine xc_loopN (fun m_ f_ Wx => ∃ (i : Nat), m_ = es.length - i ∧ (i ≤ es.length) ∧ (fullR (madeG (fun _ => false) s.g) (sumsG 1 256 (fun _ => 257) s.g) 0 = fullR ((madeG (fun _ => false) s.g).drop i) ((sumsG 1 256 (fun _ => 257) s.g).drop i) i) ∧ f_ 4 = (.slice A1 es.length c1) ∧ f_ 5 = (.slice A2 ((madeG (fun _ => false) s.g).length) c2) ∧ f_ 6 = (.int .i64 ((i : Nat))) ∧ Ext w3 Wx) (es.length) ?_ ?_
 ·
  exact ⟨0, (by omega), (by omega), rfl, rfl, rfl, vW, (Chg.refl _ _)⟩
 ·
  rintro m_ f1 w4 ⟨i, hm_f1, hi, hq, g4_f1, g5_f1, g6_f1, x2⟩
  have hx2 := x2.size
  rw [← usf g4_f1, ← usf g5_f1, ← usf g6_f1]
  refine go ?_
  refine y_if (fun h1 => ?_) (fun h1 => ?_)
  ·
   obtain ⟨x_1, g_1, hx_1⟩ := own_may (A := A2) i bools_len (by decide) (hn2.1.ext x2)
   obtain ⟨hx_2, hA_1, hc_1⟩ := hx_1 oM
   refine go ?_
   refine y_ix i hA_1 ?_
   refine y_lc (CellsL.at1 hc_1 0 rfl) ?_
   refine go ?_
   by_cases h2 : x_1 = true
   ·
    refine ysL (s := 21) (bT h2) ?_
    obtain ⟨x_2, g_2, hx_3⟩ := own_may (A := A1) i ints_len (by decide) ((hn1.1.ext e3).ext x2)
    obtain ⟨hx_4, hA_2, hc_2⟩ := hx_3 oM
    refine go ?_
    refine y_ix i hA_2 ?_
    refine y_lc (CellsL.at1 hc_2 0 rfl) ?_
    refine go ?_
    refine y_if (fun h3 => ?_) (fun h3 => ?_)
    ·
     refine go ?_
     refine y_r2 ?_
     have x3 : Ext w w4 := (Ext.trans (Ext.trans x1 e3) x2)
     exact ⟨by have h9 := hq.trans (fullR_hit hx_2 (by rw [← hea]; exact map_get (f := fE) hx_4) ⟨by simp_all, by unfold fE; rw [if_pos (by omega)]; decide⟩); unfold emptE; rw [if_pos (by rw [h9]; omega), h9] <;> rfl, x3⟩
    ·
     refine go ?_
     refine y_add ?_
     refine go ?_
     exact ⟨rfl, es.length - (i + 1), by omega, i + 1, by omega, (by omega), (hq.trans (fullR_next hx_2 (by rw [← hea]; exact map_get (f := fE) hx_4) (by rintro ⟨e1, e2⟩; unfold fE at e2; rw [if_neg (by omega)] at e2; have h9 := her _ (List.mem_of_getElem? hx_4); omega))), rfl, rfl, vW, x2⟩
   ·
    refine ysL (s := 21) (bF (Bool.eq_false_iff.2 h2)) ?_
    refine go ?_
    refine y_add ?_
    obtain ⟨e9, he9⟩ := get_ex (l := es) (i := i) (by omega)
    refine go ?_
    exact ⟨rfl, es.length - (i + 1), by omega, i + 1, by omega, (by omega), (hq.trans (fullR_next hx_2 (by rw [← hea]; exact map_get (f := fE) he9) (by rintro ⟨e1, e2⟩; simp_all))), rfl, rfl, vW, x2⟩
  ·
   refine go ?_
   refine y_r2 ?_
   have x4 : Ext w w4 := (Ext.trans (Ext.trans x1 e3) x2)
   exact ⟨by have h9 := hq.trans (by rw [List.drop_of_length_le (show (madeG (fun _ => false) s.g).length ≤ i by omega)] <;> rfl : _ = (-1 : Int)); unfold emptE; rw [if_neg (by rw [h9]; decide)] <;> rfl, x4⟩
theorem checkR_calls (s : SP) (w : World) (hS : SpR w s) :
    Calls Tryz.prog 72 #[(.agg #[(.slice s.lA s.lex.length s.lc), (.slice s.nA s.names.length s.nc), (.int .i64 s.start), (.slice s.pA s.prods.length s.pc)])] w (Ret (fun v w' => v = .tuple #[.int .i64 (checkE s.g).2, .int .i64 (checkE s.g).1] ∧ Ext w w')) := by
 refine calls_y (n := 36) Tryz.func72 ?_
 refine go ?_
 refine y_bx ?_
 intro w1 e1 z1 b1
 refine go ?_
 refine y_lN (vs := [(.slice s.lA s.lex.length s.lc), (.slice s.nA s.names.length s.nc), (.int .i64 s.start), (.slice s.pA s.prods.length s.pc)]) ⟨b1.cell rfl, b1.cell rfl, b1.cell rfl, b1.cell rfl, trivial⟩ ?_
 refine yCa (ret_mono (longR_calls s w1 (hS.ext e1)) ?_)
 rintro _ w2 ⟨rfl, e2⟩
 have he2 := e2.size
 refine go ?_
 refine xc_cond (b := ((longG s.g))) rfl (fun h1 => ?_) (fun h1 => ?_)
 ·
  have h1' := bS h1
  refine go ?_
  refine y_r2 ?_
  have x1 : Ext w w2 := (Ext.trans e1 e2)
  exact ⟨by rw [checkE_long h1] <;> rfl, x1⟩
 ·
  have h1' := bS h1
  refine go ?_
  refine y_lN (vs := [(.slice s.lA s.lex.length s.lc), (.slice s.nA s.names.length s.nc), (.int .i64 s.start), (.slice s.pA s.prods.length s.pc)]) ⟨(b1.ext e2).cell rfl, (b1.ext e2).cell rfl, (b1.ext e2).cell rfl, (b1.ext e2).cell rfl, trivial⟩ ?_
  have x2 : Ext w w2 := (Ext.trans e1 e2)
  refine yCa (ret_mono (indicesR_calls s w2 (hS.ext x2)) ?_)
  rintro _ w3 ⟨rfl, e3⟩
  have he3 := e3.size
  refine go ?_
  refine y_if (fun h2 => ?_) (fun h2 => ?_)
  ·
   refine go ?_
   refine y_lN (vs := [(.slice s.lA s.lex.length s.lc), (.slice s.nA s.names.length s.nc), (.int .i64 s.start), (.slice s.pA s.prods.length s.pc)]) ⟨((b1.ext e2).ext e3).cell rfl, ((b1.ext e2).ext e3).cell rfl, ((b1.ext e2).ext e3).cell rfl, ((b1.ext e2).ext e3).cell rfl, trivial⟩ ?_
   have hG : GoodG s.g := good_of (by omega)
   have x3 : Ext w w3 := (Ext.trans x2 e3)
   refine yCa (ret_mono (reachedR_calls s w3 (hS.ext x3) hG) ?_)
   rintro _ w4 ⟨rfl, e4⟩
   have he4 := e4.size
   refine go ?_
   refine y_if (fun h3 => ?_) (fun h3 => ?_)
   ·
    refine go ?_
    refine y_lN (vs := [(.slice s.lA s.lex.length s.lc), (.slice s.nA s.names.length s.nc), (.int .i64 s.start), (.slice s.pA s.prods.length s.pc)]) ⟨(((b1.ext e2).ext e3).ext e4).cell rfl, (((b1.ext e2).ext e3).ext e4).cell rfl, (((b1.ext e2).ext e3).ext e4).cell rfl, (((b1.ext e2).ext e3).ext e4).cell rfl, trivial⟩ ?_
    have x4 : Ext w w4 := (Ext.trans x3 e4)
    refine yCa (ret_mono (productiveR_calls s w4 (hS.ext x4) hG) ?_)
    rintro _ w5 ⟨rfl, e5⟩
    have he5 := e5.size
    refine go ?_
    refine y_if (fun h4 => ?_) (fun h4 => ?_)
    ·
     refine go ?_
     refine y_lN (vs := [(.slice s.lA s.lex.length s.lc), (.slice s.nA s.names.length s.nc), (.int .i64 s.start), (.slice s.pA s.prods.length s.pc)]) ⟨((((b1.ext e2).ext e3).ext e4).ext e5).cell rfl, ((((b1.ext e2).ext e3).ext e4).ext e5).cell rfl, ((((b1.ext e2).ext e3).ext e4).ext e5).cell rfl, ((((b1.ext e2).ext e3).ext e4).ext e5).cell rfl, trivial⟩ ?_
     have x5 : Ext w w5 := (Ext.trans x4 e5)
     refine yCa (ret_mono (emptiedR_calls s w5 (hS.ext x5) hG) ?_)
     rintro _ w6 ⟨rfl, e6⟩
     have he6 := e6.size
     refine go ?_
     refine y_r2 ?_
     have x6 : Ext w w6 := (Ext.trans x5 e6)
     exact ⟨by rw [check_as h1]; unfold checkS; simp only [h2, h3, h4, if_pos, if_neg, not_true, not_false_eq_true, ne_eq] <;> rfl, x6⟩
    ·
     refine go ?_
     refine y_r2 ?_
     have x7 : Ext w w5 := (Ext.trans x4 e5)
     exact ⟨by rw [check_as h1]; unfold checkS; simp only [h2, h3, h4, if_pos, if_neg, not_true, not_false_eq_true, ne_eq] <;> rfl, x7⟩
   ·
    refine go ?_
    refine ysC (s := 28) (bF (decide_eq_false h3)) ?_
    refine go ?_
    refine y_r2 ?_
    have x8 : Ext w w4 := (Ext.trans x3 e4)
    exact ⟨by rw [check_as h1]; unfold checkS; simp only [h2, h3, if_pos, if_neg, not_true, not_false_eq_true, ne_eq] <;> rfl, x8⟩
  ·
   refine go ?_
   refine ysC (s := 21) (bF (decide_eq_false h2)) ?_
   refine go ?_
   refine ysC (s := 28) (bF (decide_eq_false h2)) ?_
   refine go ?_
   refine y_r2 ?_
   have x9 : Ext w w3 := (Ext.trans x2 e3)
   exact ⟨by rw [check_as h1]; unfold checkS; simp only [h2, if_pos, if_neg, not_true, not_false_eq_true, ne_eq] <;> rfl, x9⟩
instance pf_109 : PlF Tryz.prog 109 := ⟨by kernel_rfl⟩
instance tF_89_0 : FdT Tryz.prog 89 0 0 := ⟨by kernel_rfl⟩
theorem sameItemsR_calls (l m : List Itm) (A B : Option Addr) (ca cb : Nat) (w : World) (hA : RowA w A (l.flatMap Itm.cs)) (hB : RowA w B (m.flatMap Itm.cs)) (hn : l.length ≤ 8796093022208) :
    Calls Tryz.prog 110 #[(.slice A l.length ca), (.slice B m.length cb)] w (Ret (fun v w' => v = .bool (decide (l = m)) ∧ Ext w w')) := by
 refine calls_y (n := 26) Tryz.func110 ?_
 refine go ?_
 refine y_if (fun h1 => ?_) (fun h1 => ?_)
 ·
  refine go ?_
  refine y_r1 ?_
  exact ⟨congrArg Value.bool (decide_eq_false (fun hh => h1 (by rw [hh]))).symm, (Chg.refl _ _)⟩
 ·
  refine go ?_
  refine xc_loopN (fun m_ f_ Wx => ∃ (i : Nat), m_ = l.length - i ∧ (i ≤ l.length) ∧ (l = m ↔ l.drop i = m.drop i) ∧ f_ 0 = (.slice A l.length ca) ∧ f_ 1 = (.slice B m.length cb) ∧ f_ 5 = (.int .i64 ((i : Nat))) ∧ Ext w Wx) (l.length) ?_ ?_
  ·
   exact ⟨0, (by omega), (by omega), (by simp), rfl, rfl, vW, (Chg.refl _ _)⟩
  ·
   rintro m_ f1 w1 ⟨i, hm_f1, hi, heq, g0_f1, g1_f1, g5_f1, x1⟩
   have hx1 := x1.size
   rw [← usf g0_f1, ← usf g1_f1, ← usf g5_f1]
   refine go ?_
   refine y_if (fun h2 => ?_) (fun h2 => ?_)
   ·
    refine go ?_
    refine xc_regionE [] (fun W_ => Chg (fun _ => False) w1 W_) hmix ?_
    intro w2 e1 z1
    have hS1 : Chg (fun _ => False) w1 w2 := Ext.to e1
    refine yDp 0 ?_
    refine yDp 1 ?_
    obtain ⟨x_1, g_1, o_1, hx_1⟩ := row_may (A := A) (cs := Itm.cs) i Itm.len (by decide) (RowA.ext hA x1)
    obtain ⟨hx_2, hA_1, hc_1⟩ := hx_1 oM
    refine yDx (i := 2) i hA_1 ?_
    refine yDt (i := 3) rfl hS1 (fun W_ hW_ => ox_loadN (vs := [(.int .i64 x_1.p), (.int .i64 x_1.dot)]) tA_42.h tS_42.h rfl rfl (CellsL.keep hW_ not_false hc_1) ⟨rfl, rfl⟩) ?_
    refine yDp 4 ?_
    refine yDp 5 ?_
    obtain ⟨x_2, g_2, o_2, hx_3⟩ := row_may (A := B) (cs := Itm.cs) i Itm.len (by decide) (RowA.ext hB x1)
    obtain ⟨hx_4, hA_2, hc_2⟩ := hx_3 oM
    refine yDx (i := 6) i hA_2 ?_
    refine yDt (i := 7) rfl hS1 (fun W_ hW_ => ox_loadN (vs := [(.int .i64 x_2.p), (.int .i64 x_2.dot)]) tA_42.h tS_42.h rfl rfl (CellsL.keep hW_ not_false hc_2) ⟨rfl, rfl⟩) ?_
    refine yDq (i := 8) rfl (fun W_ hW_ => ox_neqF (xs := [(.int .i64 x_1.p), (.int .i64 x_1.dot)]) (ys := [(.int .i64 x_2.p), (.int .i64 x_2.dot)]) (p := ((x_1.p : Int) = x_2.p ∧ (x_1.dot : Int) = x_2.dot)) fS_42 rfl rfl rfl rfl (by simp) ⟨rfl, rfl⟩) ?_
    refine xd_done (by kernel_rfl) ?_ _
    refine go ?_
    refine xc_cond (b := (!decide (((x_1.p : Int) = x_2.p ∧ (x_1.dot : Int) = x_2.dot)))) rfl (fun h3 => ?_) (fun h3 => ?_)
    ·
     have h3' := bS h3
     refine go ?_
     refine y_r1 ?_
     have x2 : Ext w w2 := (Ext.trans x1 e1)
     exact ⟨congrArg Value.bool (decide_eq_false (fun hh => h3' (by have e := eqd_head (heq.1 hh) hx_2 hx_4; rw [e]; exact ⟨rfl, rfl⟩))).symm, x2⟩
    ·
     have h3' := bS h3
     refine go ?_
     refine y_add ?_
     have x3 : Ext w w2 := (Ext.trans x1 e1)
     refine go ?_
     exact ⟨rfl, l.length - (i + 1), by omega, i + 1, by omega, (by omega), (eqd_next heq hx_2 hx_4 (by cases x_1; cases x_2; simp_all)), rfl, rfl, vW, x3⟩
   ·
    refine go ?_
    refine y_r1 ?_
    exact ⟨congrArg Value.bool (decide_eq_true (eqd_end heq (by omega) (by omega))).symm, x1⟩
theorem rightR_calls (s : SP) (ba : Nat) (yA : Option Addr) (yn yc : Nat) (stA : Option Addr) (stn stc : Nat) (p : Int) (w : World) (hb : Blk w ba #[(.slice s.lA s.lex.length s.lc), (.slice s.nA s.names.length s.nc), (.int .i64 s.start), (.slice s.pA s.prods.length s.pc), (.slice yA yn yc), (.slice stA stn stc)] 89) (hS : SpR w s) (hp : p = -1 ∨ (0 ≤ p ∧ p < (s.prods.length : Int))) :
    Calls Tryz.prog 109 #[(.pointer (some ⟨ba, 0, none⟩)), (.int .i64 p)] w (Ret (fun v w' => ∃ A c, v = .slice A (rightG s.g p).length c ∧ RowA w' A ((rightG s.g p).flatMap Sym.cs) ∧ Ext w w')) := by
 have hfp := hS.fp.le
 refine calls_y (n := 23) Tryz.func109 ?_
 refine go ?_
 refine y_if (fun h1 => ?_) (fun h1 => ?_)
 ·
  refine go ?_
  refine y_ld hb ?_
  refine yOp (ox_mkStruct (ps := [(0, (.int .i64 3)), (1, (.int .i64 s.start))]) (cs := #[(.int .i64 3), (.int .i64 s.start)]) tZ_32.h tP_32.h rfl (by kernel_rfl) ?_)
  refine yOp (ox_mkSlice (ps := [(0, (.agg #[(.int .i64 3), (.int .i64 s.start)]))]) (zs := #[(.int .i64 0), (.int .i64 0)]) (cs := #[(.int .i64 3), (.int .i64 s.start)]) tE_33.h rfl (by decide) (by kernel_rfl) (by kernel_rfl) ?_)
  intro w1 e1 z1 b1
  replace b1 : Blk w1 w.heap.size #[(.int .i64 3), (.int .i64 s.start)] 32 := b1
  refine go ?_
  refine y_r1 ?_
  have hp1 : p = -1 := by omega
  exact ⟨_, _, by rw [rightG, if_pos hp1] <;> rfl, by rw [rightG, if_pos hp1]; exact ⟨fun _ => rfl, b1.cell rfl, b1.cell rfl, trivial⟩, e1⟩
 ·
  refine go ?_
  refine y_ld hb ?_
  obtain ⟨x_1, g_1, o_1, hx_1⟩ := row_may (A := s.pA) (cs := PD.cs) p.toNat PD.len (by decide) hS.prods
  obtain ⟨hx_2, hA_1, hc_1⟩ := hx_1 oM
  have hfr_x_1 := (hS.fr _ (List.mem_of_getElem? hx_2)).le
  refine go ?_
  refine y_ix p.toNat hA_1 ?_
  refine go ?_
  refine y_lc (CellsL.at1 hc_1 1 rfl) ?_
  refine go ?_
  refine y_r1 ?_
  exact ⟨_, _, by rw [rightG_at (s := s) (p := p) (by omega) (by omega) (show s.prods[p.toNat]? = some x_1 from hx_2)] <;> rfl, by rw [rightG_at (s := s) (p := p) (by omega) (by omega) (show s.prods[p.toNat]? = some x_1 from hx_2)]; exact (hS.right _ (List.mem_of_getElem? hx_2)).ext (Chg.refl _ _), (Chg.refl _ _)⟩
theorem behindR_calls (s : SP) (ba : Nat) (yA : Option Addr) (yn yc : Nat) (stA : Option Addr) (stn stc : Nat) (x : Itm) (w : World) (hb : Blk w ba #[(.slice s.lA s.lex.length s.lc), (.slice s.nA s.names.length s.nc), (.int .i64 s.start), (.slice s.pA s.prods.length s.pc), (.slice yA yn yc), (.slice stA stn stc)] 89) (hS : SpR w s) (hx : x.p = -1 ∨ (0 ≤ x.p ∧ x.p < (s.prods.length : Int))) (hd : 0 ≤ x.dot) (hl : (rightG s.g x.p).length ≤ 8796093022208) :
    Calls Tryz.prog 74 #[(.pointer (some ⟨ba, 0, none⟩)), (.agg #[(.int .i64 x.p), (.int .i64 x.dot)])] w (Ret (fun v w' => v = .tuple #[.agg #[.int .i64 (bhS s.g x).kind, .int .i64 (bhS s.g x).n], .bool (behindG s.g x).isSome] ∧ Ext w w')) := by
 have hfp := hS.fp.le
 refine calls_y (n := 22) Tryz.func74 ?_
 refine go ?_
 refine y_bx ?_
 intro w1 e1 z1 b1
 refine y_al ?_
 intro w2 e2 z2 b2
 refine go ?_
 refine y_ld (b1.ext e2) ?_
 have x1 : Ext w w2 := (Ext.trans e1 e2)
 refine yCa (ret_mono (rightR_calls s ba yA yn yc stA stn stc x.p w2 ((hb.ext e1).ext e2) (hS.ext x1) hx) ?_)
 rintro _ w3 ⟨A1, c1, rfl, hr1, e3⟩
 have he3 := e3.size
 refine go ?_
 refine y_ld ((b1.ext e2).ext e3) ?_
 refine go ?_
 refine y_if (fun h1 => ?_) (fun h1 => ?_)
 ·
  refine go ?_
  refine yOp (ox_mkStruct (ps := []) (cs := #[(.int .i64 0), (.int .i64 0)]) tZ_32.h tP_32.h rfl (by kernel_rfl) ?_)
  refine y_st (b2.ext e3) ?_
  intro w4 e4 z3 b3
  replace b3 : Blk w4 w1.heap.size #[(.int .i64 0), (.int .i64 0)] 32 := blk_full b3 rfl
  refine go ?_
  change leaves _ _ _ _ _ _ _
  refine leaves_nil (n := 22) (rs := [.cell 4 32, .tmp 5]) (vs := [(.agg #[(.int .i64 0), (.int .i64 0)]), (.bool false)]) rfl ⟨⟨by decide, w1.heap.size, 0, 2, [(.int .i64 0), (.int .i64 0)], rfl, tA_32.h, tS_32.h, rfl, ⟨b3.cell rfl, b3.cell rfl, trivial⟩, rfl⟩, ⟨by decide, rfl⟩, trivial⟩ ?_
  have x2 : Ext w w4 := (Ext.chg1 (Ext.trans x1 e3) e4 (by omega))
  exact ⟨by rw [bhS, show behindG s.g x = none from List.getElem?_eq_none (by omega)] <;> rfl, x2⟩
 ·
  refine go ?_
  refine y_ld ((b1.ext e2).ext e3) ?_
  obtain ⟨x_1, g_1, o_1, hx_1⟩ := row_may (A := A1) (cs := Sym.cs) x.dot.toNat Sym.len (by decide) hr1
  obtain ⟨hx_2, hA_1, hc_1⟩ := hx_1 oM
  refine y_ix x.dot.toNat hA_1 ?_
  refine y_lN (vs := [(.int .i64 x_1.kind), (.int .i64 x_1.n)]) hc_1 ?_
  refine y_st (b2.ext e3) ?_
  intro w5 e5 z4 b4
  replace b4 : Blk w5 w1.heap.size #[(.int .i64 x_1.kind), (.int .i64 x_1.n)] 32 := blk_full b4 rfl
  refine go ?_
  change leaves _ _ _ _ _ _ _
  refine leaves_nil (n := 22) (rs := [.cell 4 32, .tmp 5]) (vs := [(.agg #[(.int .i64 x_1.kind), (.int .i64 x_1.n)]), (.bool true)]) rfl ⟨⟨by decide, w1.heap.size, 0, 2, [(.int .i64 x_1.kind), (.int .i64 x_1.n)], rfl, tA_32.h, tS_32.h, rfl, ⟨b4.cell rfl, b4.cell rfl, trivial⟩, rfl⟩, ⟨by decide, rfl⟩, trivial⟩ ?_
  have x3 : Ext w w5 := (Ext.chg1 (Ext.trans x1 e3) e5 (by omega))
  exact ⟨by rw [bhS, show behindG s.g x = some x_1 from hx_2] <;> rfl, x3⟩
def Srt (l : List Itm) : Prop := l.Pairwise (leItm · · = true)
def ltI (x y : Itm) : Prop := x.p < y.p ∨ (x.p = y.p ∧ x.dot < y.dot)
theorem leItm_anti {a b : Itm} (h1 : leItm a b = true) (h2 : leItm b a = true) : a = b := by
  rw [leItm_spec] at h1 h2
  cases a; cases b
  simp only [Itm.mk.injEq] at *
  omega
theorem leItm_trans {a b c : Itm} (h1 : leItm a b = true) (h2 : leItm b c = true) : leItm a c = true := by
  rw [leItm_spec] at *
  omega
theorem leItm_total (a b : Itm) : leItm a b = true ∨ leItm b a = true := by
  rw [leItm_spec, leItm_spec]; omega
theorem srtItm_srt (l : List Itm) : Srt (srtItm l) := by
  unfold Srt srtItm
  exact List.pairwise_mergeSort (le := leItm) (fun a b c h1 h2 => leItm_trans h1 h2) (fun a b => by rw [Bool.or_eq_true]; exact leItm_total a b) l
theorem srt_unique : ∀ {l m : List Itm}, l.Perm m → Srt l → Srt m → l = m
  | [], m, hp, _, _ => (List.nil_perm.1 hp).symm
  | a :: l, [], hp, _, _ => absurd hp.length_eq (by simp)
  | a :: l, b :: m, hp, h1, h2 => by
    have ha : a = b := by
      have hb : b ∈ a :: l := hp.mem_iff.2 (by simp)
      have hc : a ∈ b :: m := hp.mem_iff.1 (by simp)
      unfold Srt at h1 h2
      rw [List.pairwise_cons] at h1 h2
      rcases List.mem_cons.1 hb with e | hb
      · exact e.symm
      · rcases List.mem_cons.1 hc with e | hc
        · exact e
        · exact leItm_anti (h1.1 b hb) (h2.1 a hc)
    subst ha
    unfold Srt at h1 h2
    rw [srt_unique (List.perm_cons a |>.1 hp) (List.pairwise_cons.1 h1).2 (List.pairwise_cons.1 h2).2]
theorem srt_eq {l m : List Itm} (hp : l.Perm m) (hs : Srt l) : l = srtItm m := srt_unique (hp.trans (List.mergeSort_perm m leItm).symm) hs (srtItm_srt m)
def InsI (l : List Itm) (x : Itm) (r : List Itm) (j : Nat) : Prop := ∃ a b, r = a ++ x :: b ∧ l = a ++ b ∧ a.length = j ∧ ∀ y ∈ b, ltI x y
theorem InsI.start {l : List Itm} {x : Itm} : InsI l x (l ++ [x]) l.length := ⟨l, [], rfl, by simp, rfl, fun y hy => by cases hy⟩
theorem InsI.step {l r : List Itm} {x x1 x0 : Itm} {j k q : Nat} (h : InsI l x r j) (hk : q + 1 = j) (hkq : k = q) (h1 : r[j]? = some x1) (h0 : r[k]? = some x0) (hl : ltI x1 x0) : InsI l x ((r.set j ⟨x0.p, x0.dot⟩).set k ⟨x1.p, x1.dot⟩) q := by
  subst hkq
  obtain ⟨a, b, rfl, rfl, ha, hb⟩ := h
  have hx : x1 = x := by
    rw [List.getElem?_append_right (by omega), show j - a.length = 0 by omega] at h1
    simpa using h1.symm
  subst hx
  have hne : a ≠ [] := fun h9 => by rw [h9] at ha; simp at ha; omega
  obtain ⟨a', y, rfl⟩ : ∃ a' y, a = a' ++ [y] := ⟨a.dropLast, a.getLast hne, (List.dropLast_concat_getLast hne).symm⟩
  have hal : a'.length = k := by rw [List.length_append, List.length_singleton] at ha; omega
  have hy : y = x0 := by
    rw [List.append_assoc, List.getElem?_append_right (by omega), show k - a'.length = 0 by omega] at h0
    simpa using h0
  subst hy
  refine ⟨a', y :: b, ?_, by simp, hal, fun z hz => ?_⟩
  · apply List.ext_getElem?
    intro i
    rw [List.getElem?_set, List.getElem?_set]
    simp only [List.length_append, List.length_set, List.length_cons, List.length_nil, List.append_assoc, List.singleton_append]
    rcases Nat.lt_trichotomy i k with hi | rfl | hi
    · rw [if_neg (by omega), if_neg (by omega), List.getElem?_append_left (by omega), List.getElem?_append_left (by omega)]
    · rw [if_pos rfl, if_pos (by omega), List.getElem?_append_right (by omega), show i - a'.length = 0 by omega]; rfl
    · rw [if_neg (by omega)]
      by_cases hij : i = j
      · subst hij
        rw [if_pos rfl, if_pos (by omega), List.getElem?_append_right (by omega), show i - a'.length = 1 by omega]; rfl
      · rw [if_neg (by omega), List.getElem?_append_right (by omega), List.getElem?_append_right (by omega)]
        obtain ⟨d, hd⟩ : ∃ d, i - a'.length = d + 2 := ⟨i - a'.length - 2, by omega⟩
        rw [hd]; rfl
  · rcases List.mem_cons.1 hz with rfl | hz
    · exact hl
    · exact hb z hz
theorem InsI.done {l r : List Itm} {x : Itm} {j : Nat} (h : InsI l x r j) (hs : Srt l) (he : j = 0 ∨ ∃ (k : Nat) (x1 x0 : Itm), k + 1 = j ∧ r[j]? = some x1 ∧ r[k]? = some x0 ∧ ¬ ltI x1 x0) : r.Perm (l ++ [x]) ∧ Srt r := by
  obtain ⟨a, b, rfl, rfl, ha, hb⟩ := h
  refine ⟨?_, ?_⟩
  · rw [List.append_assoc]
    exact List.Perm.append_left a (List.perm_append_singleton x b).symm
  · unfold Srt at hs ⊢
    rw [List.pairwise_append] at hs ⊢
    obtain ⟨h1, h2, h3⟩ := hs
    have hax : ∀ y ∈ a, leItm y x = true := by
      rcases he with he | ⟨k, x1, x0, hk, e1, e0, hn⟩
      · intro y hy
        have : a = [] := List.eq_nil_of_length_eq_zero (by omega)
        rw [this] at hy; cases hy
      · have hx : x1 = x := by
          rw [List.getElem?_append_right (by omega), show j - a.length = 0 by omega] at e1
          simpa using e1.symm
        subst hx
        rw [List.getElem?_append_left (by omega)] at e0
        have hle : leItm x0 x1 = true := by
          rw [leItm_spec]; unfold ltI at hn; omega
        intro y hy
        obtain ⟨i, hi⟩ := List.mem_iff_getElem?.1 hy
        have hil := (List.getElem?_eq_some_iff.1 hi).1
        by_cases hik : i = k
        · subst hik; rw [hi] at e0; cases e0; exact hle
        · have hb1 := (List.getElem?_eq_some_iff.1 hi).2
          have hb2 := (List.getElem?_eq_some_iff.1 e0).2
          have := List.pairwise_iff_getElem.1 h1 i k hil (by omega) (by omega)
          rw [hb1, hb2] at this
          exact leItm_trans this hle
    refine ⟨h1, List.pairwise_cons.2 ⟨fun y hy => ?_, h2⟩, fun y hy z hz => ?_⟩
    · have := hb y hy
      rw [leItm_spec]; unfold ltI at this; omega
    · rcases List.mem_cons.1 hz with rfl | hz
      · exact hax y hy
      · exact h3 y hy z hz
theorem sortedR_calls (l : List Itm) (A : Option Addr) (c : Nat) (x : Itm) (w : World) (hO : Vx.Own w 42 2 (.slice A l.length c) l.length (l.flatMap Itm.cs)) (hs : Srt l) (hn : l.length ≤ 1000000000) :
    Calls Tryz.prog 75 #[(.slice A l.length c), (.agg #[(.int .i64 x.p), (.int .i64 x.dot)])] w (Ret (fun v w' => ∃ l' A' c', v = .slice A' l'.length c' ∧ l'.Perm (l ++ [(⟨x.p, x.dot⟩ : Itm)]) ∧ Srt l' ∧ Vx.Own w' 42 2 (.slice A' l'.length c') l'.length (l'.flatMap Itm.cs) ∧ (∀ k, (Value.slice A' l'.length c').ownBlock = some k → (Value.slice A l.length c).ownBlock = some k ∨ w.heap.size ≤ k) ∧ Chg (fun b => (Value.slice A l.length c).ownBlock = some b) w w')) := by
 refine calls_y (n := 78) Tryz.func75 ?_
 refine go ?_
 refine y_bx ?_
 intro w1 e1 z1 b1
 refine go ?_
 refine y_lN (vs := [(.int .i64 x.p), (.int .i64 x.dot)]) ⟨b1.cell rfl, b1.cell rfl, trivial⟩ ?_
 refine yOp (ox_mkSlice (ps := [(0, (.agg #[(.int .i64 x.p), (.int .i64 x.dot)]))]) (zs := #[(.int .i64 0), (.int .i64 0)]) (cs := #[(.int .i64 x.p), (.int .i64 x.dot)]) tE_39.h rfl (by decide) (by kernel_rfl) (by kernel_rfl) ?_)
 intro w2 e2 z2 b2
 replace b2 : Blk w2 w1.heap.size #[(.int .i64 x.p), (.int .i64 x.dot)] 42 := b2
 refine yOp (ox_appD (l := l) (r := [(⟨x.p, x.dot⟩ : Itm)]) (cs := Itm.cs) rfl tE_39.h rfl (by decide) Itm.len Itm.one (v := (.slice A l.length c)) rfl rfl (m := 1) rfl ((hO.ext e1).ext e2) b2.all aM (by decide) ?_)
 intro A1 c1 w3 o1 e3 at1 hc1
 have he3 := e3.size
 have low1 : ∀ _k, (Value.slice A1 (l ++ [(⟨x.p, x.dot⟩ : Itm)]).length c1).ownBlock = some _k → 0 ≤ _k := fun _k _h => by rcases at1 with _e | _e <;> rw [_e] at _h; exact (fun k _ => Nat.zero_le k) _k _h; exact (by cases _h; omega)
 have rel1 : ∀ _k, (Value.slice A1 (l ++ [(⟨x.p, x.dot⟩ : Itm)]).length c1).ownBlock = some _k → ((.slice A l.length c) : Value).ownBlock = some _k ∨ w.heap.size ≤ _k := fun _k _h => by rcases at1 with _e | _e <;> rw [_e] at _h; exact (fun _k h => .inl h) _k _h; exact .inr (by cases _h; omega)
 have hal : (l ++ [(⟨x.p, x.dot⟩ : Itm)]).length = l.length + 1 := by simp
 refine go ?_
 refine y_sub ?_
 refine go ?_
 refine xc_loopN (fun m_ f_ Wx => ∃ (j : Nat) (r : List Itm), m_ = j ∧ (InsI l (⟨x.p, x.dot⟩ : Itm) r j) ∧ (j ≤ l.length) ∧ f_ 0 = (.slice A1 ((l ++ [(⟨x.p, x.dot⟩ : Itm)]).length) c1) ∧ f_ 4 = (.slice none 0 0) ∧ f_ 5 = (.int .i64 ((j : Nat))) ∧ Vx.Own Wx 42 2 (.slice A1 ((l ++ [(⟨x.p, x.dot⟩ : Itm)]).length) c1) ((l ++ [(⟨x.p, x.dot⟩ : Itm)]).length) (r.flatMap Itm.cs) ∧ Chg (fun b => ((.slice A1 ((l ++ [(⟨x.p, x.dot⟩ : Itm)]).length) c1) : Value).ownBlock = some b) w3 Wx) (l.length) ?_ ?_
 ·
  exact ⟨l.length, l ++ [(⟨x.p, x.dot⟩ : Itm)], (by omega), InsI.start, (Nat.le_refl _), rfl, rfl, vW, o1, (Chg.refl _ _)⟩
 ·
  rintro m_ f1 w4 ⟨j, r, hm_f1, hI, hjl, g0_f1, g4_f1, g5_f1, o0_f1, x1⟩
  have hx1 := x1.size
  have hl_r : r.length = (l ++ [(⟨x.p, x.dot⟩ : Itm)]).length := by have _q := (o0_f1).len; rw [fm_len Itm.len] at _q; omega
  rw [← usf g0_f1, ← usf g4_f1, ← usf g5_f1]
  refine go ?_
  by_cases h1 : (0 : Int) < ((j : Nat))
  ·
   obtain ⟨x_1, g_1, hx_1⟩ := own_may (A := A1) j Itm.len (by decide) o0_f1
   obtain ⟨hx_2, hA_1, hc_1⟩ := hx_1 oM
   obtain ⟨x_2, g_2, hx_3⟩ := own_may (A := A1) ((j - 1)) Itm.len (by decide) o0_f1
   obtain ⟨hx_4, hA_2, hc_2⟩ := hx_3 oM
   by_cases h2 : (x_1.p : Int) < x_2.p
   ·
    refine xc_regionE [] (fun W_ => Chg (fun _ => False) w4 W_) hmix ?_
    intro w5 e4 z3
    have hS1 : Chg (fun _ => False) w4 w5 := Ext.to e4
    refine yDp 0 ?_
    refine yDp 1 ?_
    refine yDp 2 ?_
    refine ysD (s := 16) (bT (decide_eq_true h1)) ?_
    refine yDp 3 ?_
    refine yDp 4 ?_
    refine yDx (i := 5) j hA_1 ?_
    refine yDp 6 ?_
    refine yDt (i := 7) rfl hS1 (fun W_ hW_ => ox_load tA_3.h rfl (CellsL.at1 (CellsL.keep hW_ not_false hc_1) 0 rfl) ⟨rfl, rfl⟩) ?_
    refine yDp 8 ?_
    refine yDp 9 ?_
    refine yDq (i := 10) rfl (fun W_ hW_ => ox_sub64 (a := ((j : Nat))) (b := 1) rfl rfl (by omega) ⟨rfl, rfl⟩) ?_
    refine yDx (i := 11) ((j - 1)) hA_2 ?_
    refine yDp 12 ?_
    refine yDt (i := 13) rfl hS1 (fun W_ hW_ => ox_load tA_3.h rfl (CellsL.at1 (CellsL.keep hW_ not_false hc_2) 0 rfl) ⟨rfl, rfl⟩) ?_
    refine yDp 14 ?_
    refine yDp 15 ?_
    refine ysD (s := 29) (bT (decide_eq_true h2)) ?_
    refine yDp 16 ?_
    refine yDp 17 ?_
    refine yDp 18 ?_
    refine yDp 19 ?_
    refine xd_take 20 (some 34) rfl rfl (by kernel_rfl) (v := undef) (.inr ⟨rfl, rfl⟩) hS1 ?_
    refine yDp 21 ?_
    refine yDp 22 ?_
    refine yDp 23 ?_
    refine yDp 24 ?_
    refine yDp 25 ?_
    refine xd_take 26 (some 40) rfl rfl (by kernel_rfl) (v := undef) (.inr ⟨rfl, rfl⟩) hS1 ?_
    refine yDp 27 ?_
    refine yDp 28 ?_
    refine yDp 29 ?_
    refine yDp 30 ?_
    refine yDp 31 ?_
    refine yDp 32 ?_
    refine xd_take 33 (some 47) rfl rfl (by kernel_rfl) (v := undef) (.inr ⟨rfl, rfl⟩) hS1 ?_
    refine yDp 34 ?_
    refine yDp 35 ?_
    refine yDp 36 ?_
    refine yDp 37 ?_
    refine yDp 38 ?_
    refine xd_take 39 (some 53) rfl rfl (by kernel_rfl) (v := undef) (.inr ⟨rfl, rfl⟩) hS1 ?_
    refine yDp 40 ?_
    refine yDp 41 ?_
    refine yDp 42 ?_
    refine yDp 43 ?_
    refine xd_done (by kernel_rfl) ?_ _
    refine go ?_
    refine y_ix j hA_1 ?_
    refine y_lN (vs := [(.int .i64 x_1.p), (.int .i64 x_1.dot)]) (CellsL.keep e4 not_false hc_1) ?_
    refine y_al ?_
    intro w6 e5 z4 b3
    refine y_st b3 ?_
    intro w7 e6 z5 b4
    replace b4 : Blk w7 w5.heap.size #[(.int .i64 x_1.p), (.int .i64 x_1.dot)] 42 := blk_full b4 rfl
    refine go ?_
    refine y_sub ?_
    have x2 : Ext w4 w7 := (Ext.chg1 (Ext.trans e4 e5) e6 (by omega))
    refine y_ix ((j - 1)) hA_2 ?_
    refine y_lN (vs := [(.int .i64 x_2.p), (.int .i64 x_2.dot)]) (CellsL.keep x2 not_false hc_2) ?_
    refine y_ix j hA_1 ?_
    have q1 := (((o0_f1.ext e4).ext e5).keep1 e6 (fun k hk => by have _q := ((o0_f1.ext e4).lt) k hk; omega))
    refine yNp (ox_stE (i := j) (off := 0) (vs := [(.int .i64 x_2.p), (.int .i64 x_2.dot)]) (b := ((⟨x_2.p, x_2.dot⟩ : Itm) : Itm)) Itm.len tS_42.h hA_1 rfl (v := (.agg #[(.int .i64 x_2.p), (.int .i64 x_2.dot)])) rfl rfl rfl rfl q1 hx_2 rfl (by decide) (by omega) ?_)
    intro w8 e7 z6 o2
    refine go ?_
    refine y_sub ?_
    have q2 := (b4.keep e7 (fun _h => by have _q := ((o0_f1.ext e4).lt) _ _h; omega))
    refine y_lN (vs := [(.int .i64 x_1.p), (.int .i64 x_1.dot)]) ⟨q2.cell rfl, q2.cell rfl, trivial⟩ ?_
    obtain ⟨x_3, g_3, hx_5⟩ := own_may (A := A1) ((j - 1)) Itm.len (by decide) o2
    obtain ⟨hx_6, hA_3, hc_3⟩ := hx_5 oM
    refine y_ix ((j - 1)) hA_3 ?_
    refine yNp (ox_stE (i := ((j - 1))) (off := 0) (vs := [(.int .i64 x_1.p), (.int .i64 x_1.dot)]) (b := ((⟨x_1.p, x_1.dot⟩ : Itm) : Itm)) Itm.len tS_42.h hA_3 rfl (v := (.agg #[(.int .i64 x_1.p), (.int .i64 x_1.dot)])) rfl rfl rfl rfl o2 hx_6 rfl (by decide) (by omega) ?_)
    intro w9 e8 z7 o3
    refine go ?_
    refine y_sub ?_
    have y1 : Chg (fun b => ((.slice A1 ((l ++ [(⟨x.p, x.dot⟩ : Itm)]).length) c1) : Value).ownBlock = some b) w3 w9 := (Chg.trans (Chg.trans (Chg.chg1 (Chg.ext (Chg.ext (Chg.trans (Chg.refl (fun b => ((.slice A1 ((l ++ [(⟨x.p, x.dot⟩ : Itm)]).length) c1) : Value).ownBlock = some b) w3) x1 (fun b hb hl => hb)) e4) e5) e6 (.inr (by omega))) e7 (fun b hb hl => hb)) e8 (fun b hb hl => hb))
    refine go ?_
    exact ⟨rfl, j - 1, by omega, (j - 1), (((r.set j ((⟨x_2.p, x_2.dot⟩ : Itm)))).set ((j - 1)) ((⟨x_1.p, x_1.dot⟩ : Itm))), by rfl, (hI.step (by omega) (by omega) hx_2 hx_4 (by unfold ltI; omega)), (by omega), rfl, rfl, vW, o3, y1⟩
   ·
    by_cases h3 : (x_1.p : Int) = x_2.p
    ·
     by_cases h4 : (x_1.dot : Int) < x_2.dot
     ·
      refine xc_regionE [] (fun W_ => Chg (fun _ => False) w4 W_) hmix ?_
      intro w10 e9 z8
      have hS2 : Chg (fun _ => False) w4 w10 := Ext.to e9
      refine yDp 0 ?_
      refine yDp 1 ?_
      refine yDp 2 ?_
      refine ysD (s := 16) (bT (decide_eq_true h1)) ?_
      refine yDp 3 ?_
      refine yDp 4 ?_
      refine yDx (i := 5) j hA_1 ?_
      refine yDp 6 ?_
      refine yDt (i := 7) rfl hS2 (fun W_ hW_ => ox_load tA_3.h rfl (CellsL.at1 (CellsL.keep hW_ not_false hc_1) 0 rfl) ⟨rfl, rfl⟩) ?_
      refine yDp 8 ?_
      refine yDp 9 ?_
      refine yDq (i := 10) rfl (fun W_ hW_ => ox_sub64 (a := ((j : Nat))) (b := 1) rfl rfl (by omega) ⟨rfl, rfl⟩) ?_
      refine yDx (i := 11) ((j - 1)) hA_2 ?_
      refine yDp 12 ?_
      refine yDt (i := 13) rfl hS2 (fun W_ hW_ => ox_load tA_3.h rfl (CellsL.at1 (CellsL.keep hW_ not_false hc_2) 0 rfl) ⟨rfl, rfl⟩) ?_
      refine yDp 14 ?_
      refine yDp 15 ?_
      refine ysD (s := 29) (bF (decide_eq_false h2)) ?_
      refine yDp 16 ?_
      refine yDp 17 ?_
      refine yDx (i := 18) j hA_1 ?_
      refine yDp 19 ?_
      refine yDt (i := 20) rfl hS2 (fun W_ hW_ => ox_load tA_3.h rfl (CellsL.at1 (CellsL.keep hW_ not_false hc_1) 0 rfl) ⟨rfl, rfl⟩) ?_
      refine yDp 21 ?_
      refine yDp 22 ?_
      refine yDq (i := 23) rfl (fun W_ hW_ => ox_sub64 (a := ((j : Nat))) (b := 1) rfl rfl (by omega) ⟨rfl, rfl⟩) ?_
      refine yDx (i := 24) ((j - 1)) hA_2 ?_
      refine yDp 25 ?_
      refine yDt (i := 26) rfl hS2 (fun W_ hW_ => ox_load tA_3.h rfl (CellsL.at1 (CellsL.keep hW_ not_false hc_2) 0 rfl) ⟨rfl, rfl⟩) ?_
      refine yDp 27 ?_
      refine yDp 28 ?_
      refine ysD (s := 42) (bT (decide_eq_true h3)) ?_
      refine yDp 29 ?_
      refine yDp 30 ?_
      refine yDx (i := 31) j hA_1 ?_
      refine yDp 32 ?_
      refine yDt (i := 33) rfl hS2 (fun W_ hW_ => ox_load tA_3.h rfl (CellsL.at1 (CellsL.keep hW_ not_false hc_1) 1 rfl) ⟨rfl, rfl⟩) ?_
      refine yDp 34 ?_
      refine yDp 35 ?_
      refine yDq (i := 36) rfl (fun W_ hW_ => ox_sub64 (a := ((j : Nat))) (b := 1) rfl rfl (by omega) ⟨rfl, rfl⟩) ?_
      refine yDx (i := 37) ((j - 1)) hA_2 ?_
      refine yDp 38 ?_
      refine yDt (i := 39) rfl hS2 (fun W_ hW_ => ox_load tA_3.h rfl (CellsL.at1 (CellsL.keep hW_ not_false hc_2) 1 rfl) ⟨rfl, rfl⟩) ?_
      refine yDp 40 ?_
      refine yDp 41 ?_
      refine yDp 42 ?_
      refine yDp 43 ?_
      refine xd_done (by kernel_rfl) ?_ _
      refine go ?_
      refine ysC (s := 57) (bT (decide_eq_true h4)) ?_
      refine go ?_
      refine y_ix j hA_1 ?_
      refine y_lN (vs := [(.int .i64 x_1.p), (.int .i64 x_1.dot)]) (CellsL.keep e9 not_false hc_1) ?_
      refine y_al ?_
      intro w11 e10 z9 b5
      refine y_st b5 ?_
      intro w12 e11 z10 b6
      replace b6 : Blk w12 w10.heap.size #[(.int .i64 x_1.p), (.int .i64 x_1.dot)] 42 := blk_full b6 rfl
      refine go ?_
      refine y_sub ?_
      have x3 : Ext w4 w12 := (Ext.chg1 (Ext.trans e9 e10) e11 (by omega))
      refine y_ix ((j - 1)) hA_2 ?_
      refine y_lN (vs := [(.int .i64 x_2.p), (.int .i64 x_2.dot)]) (CellsL.keep x3 not_false hc_2) ?_
      refine y_ix j hA_1 ?_
      have q3 := (((o0_f1.ext e9).ext e10).keep1 e11 (fun k hk => by have _q := ((o0_f1.ext e9).lt) k hk; omega))
      refine yNp (ox_stE (i := j) (off := 0) (vs := [(.int .i64 x_2.p), (.int .i64 x_2.dot)]) (b := ((⟨x_2.p, x_2.dot⟩ : Itm) : Itm)) Itm.len tS_42.h hA_1 rfl (v := (.agg #[(.int .i64 x_2.p), (.int .i64 x_2.dot)])) rfl rfl rfl rfl q3 hx_2 rfl (by decide) (by omega) ?_)
      intro w13 e12 z11 o4
      refine go ?_
      refine y_sub ?_
      have q4 := (b6.keep e12 (fun _h => by have _q := ((o0_f1.ext e9).lt) _ _h; omega))
      refine y_lN (vs := [(.int .i64 x_1.p), (.int .i64 x_1.dot)]) ⟨q4.cell rfl, q4.cell rfl, trivial⟩ ?_
      obtain ⟨x_4, g_4, hx_7⟩ := own_may (A := A1) ((j - 1)) Itm.len (by decide) o4
      obtain ⟨hx_8, hA_4, hc_4⟩ := hx_7 oM
      refine y_ix ((j - 1)) hA_4 ?_
      refine yNp (ox_stE (i := ((j - 1))) (off := 0) (vs := [(.int .i64 x_1.p), (.int .i64 x_1.dot)]) (b := ((⟨x_1.p, x_1.dot⟩ : Itm) : Itm)) Itm.len tS_42.h hA_4 rfl (v := (.agg #[(.int .i64 x_1.p), (.int .i64 x_1.dot)])) rfl rfl rfl rfl o4 hx_8 rfl (by decide) (by omega) ?_)
      intro w14 e13 z12 o5
      refine go ?_
      refine y_sub ?_
      have y2 : Chg (fun b => ((.slice A1 ((l ++ [(⟨x.p, x.dot⟩ : Itm)]).length) c1) : Value).ownBlock = some b) w3 w14 := (Chg.trans (Chg.trans (Chg.chg1 (Chg.ext (Chg.ext (Chg.trans (Chg.refl (fun b => ((.slice A1 ((l ++ [(⟨x.p, x.dot⟩ : Itm)]).length) c1) : Value).ownBlock = some b) w3) x1 (fun b hb hl => hb)) e9) e10) e11 (.inr (by omega))) e12 (fun b hb hl => hb)) e13 (fun b hb hl => hb))
      refine go ?_
      exact ⟨rfl, j - 1, by omega, (j - 1), (((r.set j ((⟨x_2.p, x_2.dot⟩ : Itm)))).set ((j - 1)) ((⟨x_1.p, x_1.dot⟩ : Itm))), by rfl, (hI.step (by omega) (by omega) hx_2 hx_4 (by unfold ltI; omega)), (by omega), rfl, rfl, vW, o5, y2⟩
     ·
      refine xc_regionE [] (fun W_ => Chg (fun _ => False) w4 W_) hmix ?_
      intro w15 e14 z13
      have hS3 : Chg (fun _ => False) w4 w15 := Ext.to e14
      refine yDp 0 ?_
      refine yDp 1 ?_
      refine yDp 2 ?_
      refine ysD (s := 16) (bT (decide_eq_true h1)) ?_
      refine yDp 3 ?_
      refine yDp 4 ?_
      refine yDx (i := 5) j hA_1 ?_
      refine yDp 6 ?_
      refine yDt (i := 7) rfl hS3 (fun W_ hW_ => ox_load tA_3.h rfl (CellsL.at1 (CellsL.keep hW_ not_false hc_1) 0 rfl) ⟨rfl, rfl⟩) ?_
      refine yDp 8 ?_
      refine yDp 9 ?_
      refine yDq (i := 10) rfl (fun W_ hW_ => ox_sub64 (a := ((j : Nat))) (b := 1) rfl rfl (by omega) ⟨rfl, rfl⟩) ?_
      refine yDx (i := 11) ((j - 1)) hA_2 ?_
      refine yDp 12 ?_
      refine yDt (i := 13) rfl hS3 (fun W_ hW_ => ox_load tA_3.h rfl (CellsL.at1 (CellsL.keep hW_ not_false hc_2) 0 rfl) ⟨rfl, rfl⟩) ?_
      refine yDp 14 ?_
      refine yDp 15 ?_
      refine ysD (s := 29) (bF (decide_eq_false h2)) ?_
      refine yDp 16 ?_
      refine yDp 17 ?_
      refine yDx (i := 18) j hA_1 ?_
      refine yDp 19 ?_
      refine yDt (i := 20) rfl hS3 (fun W_ hW_ => ox_load tA_3.h rfl (CellsL.at1 (CellsL.keep hW_ not_false hc_1) 0 rfl) ⟨rfl, rfl⟩) ?_
      refine yDp 21 ?_
      refine yDp 22 ?_
      refine yDq (i := 23) rfl (fun W_ hW_ => ox_sub64 (a := ((j : Nat))) (b := 1) rfl rfl (by omega) ⟨rfl, rfl⟩) ?_
      refine yDx (i := 24) ((j - 1)) hA_2 ?_
      refine yDp 25 ?_
      refine yDt (i := 26) rfl hS3 (fun W_ hW_ => ox_load tA_3.h rfl (CellsL.at1 (CellsL.keep hW_ not_false hc_2) 0 rfl) ⟨rfl, rfl⟩) ?_
      refine yDp 27 ?_
      refine yDp 28 ?_
      refine ysD (s := 42) (bT (decide_eq_true h3)) ?_
      refine yDp 29 ?_
      refine yDp 30 ?_
      refine yDx (i := 31) j hA_1 ?_
      refine yDp 32 ?_
      refine yDt (i := 33) rfl hS3 (fun W_ hW_ => ox_load tA_3.h rfl (CellsL.at1 (CellsL.keep hW_ not_false hc_1) 1 rfl) ⟨rfl, rfl⟩) ?_
      refine yDp 34 ?_
      refine yDp 35 ?_
      refine yDq (i := 36) rfl (fun W_ hW_ => ox_sub64 (a := ((j : Nat))) (b := 1) rfl rfl (by omega) ⟨rfl, rfl⟩) ?_
      refine yDx (i := 37) ((j - 1)) hA_2 ?_
      refine yDp 38 ?_
      refine yDt (i := 39) rfl hS3 (fun W_ hW_ => ox_load tA_3.h rfl (CellsL.at1 (CellsL.keep hW_ not_false hc_2) 1 rfl) ⟨rfl, rfl⟩) ?_
      refine yDp 40 ?_
      refine yDp 41 ?_
      refine yDp 42 ?_
      refine yDp 43 ?_
      refine xd_done (by kernel_rfl) ?_ _
      refine go ?_
      refine ysC (s := 57) (bF (decide_eq_false h4)) ?_
      refine go ?_
      refine y_r1 ?_
      have hd9 := hI.done hs (.inr ⟨_, _, _, by omega, hx_2, hx_4, by unfold ltI; omega⟩)
      have y3 : Chg (fun b => ((.slice A l.length c) : Value).ownBlock = some b) w w15 := (Chg.ext (Chg.trans (Chg.trans (Chg.ext (Chg.ext (Chg.refl (fun b => ((.slice A l.length c) : Value).ownBlock = some b) w) e1) e2) e3 (fun b hb hl => hb)) x1 (fun b hb hl => (rel1 b hb).elim (fun hb => hb) (fun _h => absurd hl (by omega)))) e14)
      exact ⟨r, A1, c1, by rw [hl_r] <;> rfl, hd9.1, hd9.2, by rw [hl_r]; exact (o0_f1.ext e14), by rw [hl_r]; exact rel1, y3⟩
    ·
     refine xc_regionE [] (fun W_ => Chg (fun _ => False) w4 W_) hmix ?_
     intro w16 e15 z14
     have hS4 : Chg (fun _ => False) w4 w16 := Ext.to e15
     refine yDp 0 ?_
     refine yDp 1 ?_
     refine yDp 2 ?_
     refine ysD (s := 16) (bT (decide_eq_true h1)) ?_
     refine yDp 3 ?_
     refine yDp 4 ?_
     refine yDx (i := 5) j hA_1 ?_
     refine yDp 6 ?_
     refine yDt (i := 7) rfl hS4 (fun W_ hW_ => ox_load tA_3.h rfl (CellsL.at1 (CellsL.keep hW_ not_false hc_1) 0 rfl) ⟨rfl, rfl⟩) ?_
     refine yDp 8 ?_
     refine yDp 9 ?_
     refine yDq (i := 10) rfl (fun W_ hW_ => ox_sub64 (a := ((j : Nat))) (b := 1) rfl rfl (by omega) ⟨rfl, rfl⟩) ?_
     refine yDx (i := 11) ((j - 1)) hA_2 ?_
     refine yDp 12 ?_
     refine yDt (i := 13) rfl hS4 (fun W_ hW_ => ox_load tA_3.h rfl (CellsL.at1 (CellsL.keep hW_ not_false hc_2) 0 rfl) ⟨rfl, rfl⟩) ?_
     refine yDp 14 ?_
     refine yDp 15 ?_
     refine ysD (s := 29) (bF (decide_eq_false h2)) ?_
     refine yDp 16 ?_
     refine yDp 17 ?_
     refine yDx (i := 18) j hA_1 ?_
     refine yDp 19 ?_
     refine yDt (i := 20) rfl hS4 (fun W_ hW_ => ox_load tA_3.h rfl (CellsL.at1 (CellsL.keep hW_ not_false hc_1) 0 rfl) ⟨rfl, rfl⟩) ?_
     refine yDp 21 ?_
     refine yDp 22 ?_
     refine yDq (i := 23) rfl (fun W_ hW_ => ox_sub64 (a := ((j : Nat))) (b := 1) rfl rfl (by omega) ⟨rfl, rfl⟩) ?_
     refine yDx (i := 24) ((j - 1)) hA_2 ?_
     refine yDp 25 ?_
     refine yDt (i := 26) rfl hS4 (fun W_ hW_ => ox_load tA_3.h rfl (CellsL.at1 (CellsL.keep hW_ not_false hc_2) 0 rfl) ⟨rfl, rfl⟩) ?_
     refine yDp 27 ?_
     refine yDp 28 ?_
     refine ysD (s := 42) (bF (decide_eq_false h3)) ?_
     refine yDp 29 ?_
     refine yDp 30 ?_
     refine yDp 31 ?_
     refine yDp 32 ?_
     refine xd_take 33 (some 47) rfl rfl (by kernel_rfl) (v := undef) (.inr ⟨rfl, rfl⟩) hS4 ?_
     refine yDp 34 ?_
     refine yDp 35 ?_
     refine yDp 36 ?_
     refine yDp 37 ?_
     refine yDp 38 ?_
     refine xd_take 39 (some 53) rfl rfl (by kernel_rfl) (v := undef) (.inr ⟨rfl, rfl⟩) hS4 ?_
     refine yDp 40 ?_
     refine yDp 41 ?_
     refine yDp 42 ?_
     refine yDp 43 ?_
     refine xd_done (by kernel_rfl) ?_ _
     refine go ?_
     refine y_r1 ?_
     have hd9 := hI.done hs (.inr ⟨_, _, _, by omega, hx_2, hx_4, by unfold ltI; omega⟩)
     have y4 : Chg (fun b => ((.slice A l.length c) : Value).ownBlock = some b) w w16 := (Chg.ext (Chg.trans (Chg.trans (Chg.ext (Chg.ext (Chg.refl (fun b => ((.slice A l.length c) : Value).ownBlock = some b) w) e1) e2) e3 (fun b hb hl => hb)) x1 (fun b hb hl => (rel1 b hb).elim (fun hb => hb) (fun _h => absurd hl (by omega)))) e15)
     exact ⟨r, A1, c1, by rw [hl_r] <;> rfl, hd9.1, hd9.2, by rw [hl_r]; exact (o0_f1.ext e15), by rw [hl_r]; exact rel1, y4⟩
  ·
   refine xc_regionE [] (fun W_ => Chg (fun _ => False) w4 W_) hmix ?_
   intro w17 e16 z15
   have hS5 : Chg (fun _ => False) w4 w17 := Ext.to e16
   refine yDp 0 ?_
   refine yDp 1 ?_
   refine yDp 2 ?_
   refine ysD (s := 16) (bF (decide_eq_false h1)) ?_
   refine yDp 3 ?_
   refine yDp 4 ?_
   refine yDp 5 ?_
   refine yDp 6 ?_
   refine xd_take 7 (some 21) rfl rfl (by kernel_rfl) (v := undef) (.inr ⟨rfl, rfl⟩) hS5 ?_
   refine yDp 8 ?_
   refine yDp 9 ?_
   refine yDp 10 ?_
   refine yDp 11 ?_
   refine yDp 12 ?_
   refine xd_take 13 (some 27) rfl rfl (by kernel_rfl) (v := undef) (.inr ⟨rfl, rfl⟩) hS5 ?_
   refine yDp 14 ?_
   refine yDp 15 ?_
   refine yDp 16 ?_
   refine yDp 17 ?_
   refine yDp 18 ?_
   refine yDp 19 ?_
   refine xd_take 20 (some 34) rfl rfl (by kernel_rfl) (v := undef) (.inr ⟨rfl, rfl⟩) hS5 ?_
   refine yDp 21 ?_
   refine yDp 22 ?_
   refine yDp 23 ?_
   refine yDp 24 ?_
   refine yDp 25 ?_
   refine xd_take 26 (some 40) rfl rfl (by kernel_rfl) (v := undef) (.inr ⟨rfl, rfl⟩) hS5 ?_
   refine yDp 27 ?_
   refine yDp 28 ?_
   refine yDp 29 ?_
   refine yDp 30 ?_
   refine yDp 31 ?_
   refine yDp 32 ?_
   refine xd_take 33 (some 47) rfl rfl (by kernel_rfl) (v := undef) (.inr ⟨rfl, rfl⟩) hS5 ?_
   refine yDp 34 ?_
   refine yDp 35 ?_
   refine yDp 36 ?_
   refine yDp 37 ?_
   refine yDp 38 ?_
   refine xd_take 39 (some 53) rfl rfl (by kernel_rfl) (v := undef) (.inr ⟨rfl, rfl⟩) hS5 ?_
   refine yDp 40 ?_
   refine yDp 41 ?_
   refine yDp 42 ?_
   refine yDp 43 ?_
   refine xd_done (by kernel_rfl) ?_ _
   refine go ?_
   refine y_r1 ?_
   have hd9 := hI.done hs (.inl (by omega))
   have y5 : Chg (fun b => ((.slice A l.length c) : Value).ownBlock = some b) w w17 := (Chg.ext (Chg.trans (Chg.trans (Chg.ext (Chg.ext (Chg.refl (fun b => ((.slice A l.length c) : Value).ownBlock = some b) w) e1) e2) e3 (fun b hb hl => hb)) x1 (fun b hb hl => (rel1 b hb).elim (fun hb => hb) (fun _h => absurd hl (by omega)))) e16)
   exact ⟨r, A1, c1, by rw [hl_r] <;> rfl, hd9.1, hd9.2, by rw [hl_r]; exact (o0_f1.ext e16), by rw [hl_r]; exact rel1, y5⟩
def clN (g : GD) (K : List Itm) (T : List Bool) : Prop := (∀ x ∈ K, (behindG g x).isSome = true → (bhS g x).kind = 3 → T[(bhS g x).n.toNat]! = true) ∧ ∀ p ∈ g.prods, T[p.1.toNat]! = true → ∀ z, p.2[0]? = some z → z.kind = 3 → T[z.n.toNat]! = true
structure InvE (g : GD) (K : List Itm) (h : CS) : Prop where
  d : InvD g K h
  new : ∀ (i : Nat) (x : Itm), K.length ≤ i → h.1[i]? = some x → ∃ (j : Nat) (p : P2), x = ⟨(j : Nat), 0⟩ ∧ g.prods[j]? = some p ∧ 0 < h.2.1[p.1.toNat]!
  nd : (h.1.drop K.length).Nodup
  lst : ∀ T : List Bool, clN g K T → ∀ n : Nat, 0 < h.2.1[n]! → T[n]! = true
theorem InvE.start {g : GD} {K : List Itm} (hI : ∀ x ∈ K, okI g x) : InvE g K (K, List.replicate g.names 0, 0) := by
  refine ⟨InvD.start hI, fun i x hi hx => ?_, by simp, fun T _ n hn => ?_⟩
  · have := (List.getElem?_eq_some_iff.1 hx).1
    simp only at this; omega
  · simp only at hn
    have : (List.replicate g.names (0 : Int))[n]! = 0 := by
      by_cases hl : n < g.names
      · exact bangI (by rw [List.getElem?_replicate, if_pos hl])
      · exact bangI_none (by rw [List.length_replicate]; omega)
    rw [this] at hn; exact absurd hn (by decide)
theorem behind_zero {g : GD} {j : Nat} {p : P2} (hp : g.prods[j]? = some p) : behindG g ⟨(j : Nat), 0⟩ = p.2[0]? := by
  unfold behindG rightG
  rw [if_neg (by show ¬ ((j : Nat) : Int) = -1; omega)]
  show (g.prods[((j : Nat) : Int).toNat]!).2[(0 : Int).toNat]? = _
  rw [show ((j : Nat) : Int).toNat = j by omega, getElem!_def, hp]
  rfl
theorem newP_nodup {K : List Itm} {n : Int} : ∀ (l : List P2) (k : Nat), (newP K n l k).Nodup ∧ ∀ x ∈ newP K n l k, (k : Int) ≤ x.p
  | [], _ => ⟨List.nodup_nil, fun x hx => by cases hx⟩
  | p :: ps, k => by
    obtain ⟨h1, h2⟩ := newP_nodup (K := K) (n := n) ps (k + 1)
    rw [newP]
    split
    · refine ⟨List.nodup_cons.2 ⟨fun h => ?_, h1⟩, fun x hx => ?_⟩
      · have := h2 _ h
        simp only at this; omega
      · rcases List.mem_cons.1 hx with rfl | hx
        · exact Int.le_refl _
        · have := h2 x hx; omega
    · exact ⟨h1, fun x hx => by have := h2 x hx; omega⟩
theorem InvE.step {g : GD} {K : List Itm} (hG : GoodG g) {h : CS} (hi : InvE g K h) (hs : (stepC g K h).2 = true) : InvE g K (stepC g K h).1 := by
  have hd := hi.d.step hG hs
  obtain ⟨its, dn, q⟩ := h
  have hq := hi.d.c.q
  have hdl := hi.d.c.dl
  have hpre := hi.d.c.pre
  have hnew := hi.new
  have hnd := hi.nd
  have hlst := hi.lst
  have hle := hi.d.c.le
  simp only at hq hdl hpre hnew hnd hlst hle
  rcases Nat.lt_or_ge q.toNat its.length with hlt | hge
  · have hx : its[q.toNat]? = some its[q.toNat] := List.getElem?_eq_getElem hlt
    generalize its[q.toNat] = x at hx
    have hok := hi.d.c.ok x (List.mem_of_getElem? hx)
    by_cases hcd : (behindG g x).isSome = true ∧ (bhS g x).kind = 3 ∧ ¬ 0 < dn[(bhS g x).n.toNat]!
    · have hn := behind_name hG hok hcd.1 hcd.2.1
      have hlt2 : (bhS g x).n.toNat < dn.length := by omega
      have hv : dn[(bhS g x).n.toNat]? = some dn[(bhS g x).n.toNat] := List.getElem?_eq_getElem hlt2
      have hv0 : dn[(bhS g x).n.toNat] = 0 := by
        rcases hi.d.c.dv _ (List.mem_of_getElem? hv) with h1 | h1
        · exact h1
        · exact absurd (by rw [bang_of hv, h1]; decide) hcd.2.2
      have hb0 : dn[(bhS g x).n.toNat]! = 0 := by rw [bang_of hv, hv0]
      rw [stepC_main hx hcd hv] at hd ⊢
      rw [hv0] at hd ⊢
      refine ⟨hd, fun i y hKi hy => ?_, ?_, fun T hT n hn2 => ?_⟩
      · simp only at hy ⊢
        by_cases hil : i < its.length
        · rw [List.getElem?_append_left hil] at hy
          obtain ⟨j, p, e1, e2, e3⟩ := hnew i y hKi hy
          refine ⟨j, p, e1, e2, ?_⟩
          rw [setI_bang hlt2]; split
          · decide
          · exact e3
        · rw [List.getElem?_append_right (by omega)] at hy
          obtain ⟨j, p, hj, hp, e, _⟩ := (newP_mem K _).1 (List.mem_of_getElem? hy)
          refine ⟨j, p, by rw [e, Nat.zero_add], hj, ?_⟩
          rw [setI_bang hlt2, if_pos (by rw [hp])]; decide
      · simp only
        rw [List.drop_append_of_le_length hle]
        refine List.nodup_append.2 ⟨hnd, (newP_nodup _ _).1, fun a ha b hb => ?_⟩
        intro hab
        subst hab
        obtain ⟨i, hi9⟩ := List.mem_iff_getElem?.1 ha
        rw [List.getElem?_drop] at hi9
        obtain ⟨j, p, e1, e2, e3⟩ := hnew _ a (Nat.le_add_right _ _) hi9
        obtain ⟨j', p', hj', hp', e', _⟩ := (newP_mem K _).1 hb
        rw [e1] at e'
        simp only [Itm.mk.injEq, and_true] at e'
        have : j = j' := by omega
        subst this
        rw [e2] at hj'; cases hj'
        rw [hp', hb0] at e3
        exact absurd e3 (by decide)
      · simp only at hn2
        rw [setI_bang hlt2] at hn2
        split at hn2
        · rename_i he
          subst he
          by_cases hqK : q.toNat < K.length
          · have hxK : x ∈ K := by
              rw [← hpre]
              exact List.mem_of_getElem? (i := q.toNat) (by rw [List.getElem?_take, if_pos hqK]; exact hx)
            exact hT.1 x hxK hcd.1 hcd.2.1
          · obtain ⟨j, p, e1, e2, e3⟩ := hnew _ x (by omega) hx
            have hb := behind_zero e2
            rw [← e1] at hb
            obtain ⟨z, hz⟩ := Option.isSome_iff_exists.1 hcd.1
            have hzz : bhS g x = z := by rw [bhS, hz]; rfl
            rw [hzz] at hcd ⊢
            rw [hz] at hb
            exact hT.2 p (List.mem_of_getElem? e2) (hlst T hT _ e3) z hb.symm hcd.2.1
        · exact hlst T hT n hn2
    · rw [stepC_skip hx hcd] at hd ⊢
      exact ⟨hd, hnew, hnd, hlst⟩
  · exact absurd hs (by rw [stepC_end (by omega)]; decide)
theorem closF_E {g : GD} (hG : GoodG g) {K : List Itm} (hK : ∀ x ∈ K, okI g x) : InvE g K (closF g K) ∧ (closF g K).1.length ≤ (closF g K).2.2.toNat := by
  have hf := fixN_flag (f := stepC g K) (μ := muC g) (Inv := InvE g K) (fun h hi hs => ⟨hi.step hG hs, (stepC_ok hG hi.d.c hs).2⟩) (fun h hs => (stepC_stop h hs).1) (muC g (K, List.replicate g.names 0, 0) + 1) _ (InvE.start hK) (Nat.lt_succ_self _)
  exact ⟨hf.1, (stepC_stop _ hf.2).2⟩
def namesC (g : GD) (K : List Itm) (n : Nat) : Prop := 0 < (closF g K).2.1[n]!
theorem namesC_kernel {g : GD} (hG : GoodG g) {K : List Itm} (hK : ∀ x ∈ K, okI g x) {x : Itm} (hx : x ∈ K) (hb : (behindG g x).isSome = true) (hk : (bhS g x).kind = 3) : namesC g K (bhS g x).n.toNat := by
  obtain ⟨hI, hl⟩ := closF_E hG hK
  obtain ⟨i, hi⟩ := List.mem_iff_getElem?.1 hx
  have hil := (List.getElem?_eq_some_iff.1 hi).1
  have h1 : (closF g K).1[i]? = some x := by
    have h9 : ((closF g K).1.take K.length)[i]? = some x := by rw [hI.d.c.pre]; exact hi
    rw [List.getElem?_take, if_pos hil] at h9; exact h9
  have := (List.getElem?_eq_some_iff.1 h1).1
  exact hI.d.seen i x (by omega) h1 hb hk
theorem namesC_prod {g : GD} (hG : GoodG g) {K : List Itm} (hK : ∀ x ∈ K, okI g x) (hK0 : ∀ x ∈ K, x.dot = 0 → x.p = -1) {p : P2} (hp : p ∈ g.prods) (hn : namesC g K p.1.toNat) {z : Sym} (hz : p.2[0]? = some z) (hk : z.kind = 3) : namesC g K z.n.toNat := by
  obtain ⟨hI, hl⟩ := closF_E hG hK
  obtain ⟨j, hj⟩ := List.mem_iff_getElem?.1 hp
  have h0 := (hG.2 p hp).1
  have hm := hI.d.all p.1 h0 hn j p hj rfl
  obtain ⟨i, hi⟩ := List.mem_iff_getElem?.1 hm
  have hil := (List.getElem?_eq_some_iff.1 hi).1
  have hb := behind_zero hj
  rw [hz] at hb
  have hs := hI.d.seen i _ (by omega) hi (by rw [hb]; rfl)
  have he : bhS g ⟨(j : Nat), 0⟩ = z := by rw [bhS, hb]; rfl
  rw [he] at hs
  exact hs hk
def itemsT (T : List Bool) : List P2 → Nat → List Itm
  | [], _ => []
  | p :: ps, k => (if T[p.1.toNat]! = true then [⟨(k : Nat), 0⟩] else []) ++ itemsT T ps (k + 1)
theorem itemsT_mem {T : List Bool} {x : Itm} : ∀ {l : List P2} {k : Nat}, x ∈ itemsT T l k ↔ ∃ (j : Nat) (p : P2), l[j]? = some p ∧ T[p.1.toNat]! = true ∧ x = ⟨((k + j : Nat) : Int), 0⟩
  | [], k => by simp [itemsT]
  | p :: ps, k => by
    rw [itemsT, List.mem_append, itemsT_mem (l := ps)]
    constructor
    · rintro (h | ⟨j, q, h1, h2, h3⟩)
      · split at h
        · rename_i hc
          exact ⟨0, p, rfl, hc, by simpa using h⟩
        · cases h
      · exact ⟨j + 1, q, h1, h2, by rw [h3]; congr 2; omega⟩
    · rintro ⟨j, q, h1, h2, h3⟩
      cases j with
      | zero =>
        simp only [List.getElem?_cons_zero, Option.some.injEq] at h1
        subst h1
        left; rw [if_pos h2]; simpa using h3
      | succ j => exact .inr ⟨j, q, h1, h2, by rw [h3]; congr 2; omega⟩
theorem itemsT_srt {T : List Bool} : ∀ (l : List P2) (k : Nat), Srt (itemsT T l k) ∧ (itemsT T l k).Nodup ∧ ∀ x ∈ itemsT T l k, (k : Int) ≤ x.p
  | [], _ => ⟨List.Pairwise.nil, List.nodup_nil, fun x hx => by cases hx⟩
  | p :: ps, k => by
    obtain ⟨h1, h2, h3⟩ := itemsT_srt (T := T) ps (k + 1)
    rw [itemsT]
    split
    · refine ⟨List.pairwise_cons.2 ⟨fun x hx => ?_, h1⟩, List.nodup_cons.2 ⟨fun h => ?_, h2⟩, fun x hx => ?_⟩
      · have := h3 x hx
        rw [leItm_spec]; left; show ((k : Nat) : Int) < x.p; omega
      · have := h3 _ h
        simp only at this; omega
      · rcases List.mem_cons.1 hx with rfl | hx
        · exact Int.le_refl _
        · have := h3 x hx; omega
    · exact ⟨h1, h2, fun x hx => by have := h3 x hx; omega⟩
theorem closG_as {g : GD} (hG : GoodG g) {K : List Itm} (hK : ∀ x ∈ K, okI g x) (hK0 : ∀ x ∈ K, x.dot = 0 → x.p = -1) {T : List Bool} (hs : ∀ n : Nat, T[n]! = true → namesC g K n) (hT : clN g K T) : closG g K = K ++ itemsT T g.prods 0 := by
  obtain ⟨hI, hl⟩ := closF_E hG hK
  unfold closG
  rw [closF_pre]
  congr 1
  obtain ⟨h1, h2, _⟩ := itemsT_srt (T := T) g.prods 0
  refine (srt_eq ?_ h1).symm
  refine (List.perm_ext_iff_of_nodup h2 hI.nd).2 fun x => ?_
  rw [itemsT_mem]
  constructor
  · rintro ⟨j, p, e1, e2, e3⟩
    rw [Nat.zero_add] at e3
    have h0 := (hG.2 p (List.mem_of_getElem? e1)).1
    have hm := hI.d.all p.1 h0 (hs _ e2) j p e1 rfl
    rw [← e3] at hm
    have hn : x ∉ K := fun h => by have := hK0 x h (by rw [e3]); rw [e3] at this; simp only at this; omega
    rw [← List.take_append_drop K.length (closF g K).1, closF_pre, List.mem_append] at hm
    exact hm.resolve_left hn
  · intro hx
    obtain ⟨i, hi⟩ := List.mem_iff_getElem?.1 hx
    rw [List.getElem?_drop] at hi
    obtain ⟨j, p, e1, e2, e3⟩ := hI.new _ x (Nat.le_add_right _ _) hi
    exact ⟨j, p, e2, hI.lst T hT _ e3, by rw [e1, Nat.zero_add]⟩
theorem termsG_mem {g : List Bool} {z : Sym} : ∀ {l : List Bool} {k : Nat}, z ∈ termsG l k ↔ ∃ j : Nat, l[j]? = some false ∧ z = ⟨1, ((k + j : Nat) : Int)⟩
  | [], k => by simp [termsG]
  | b :: r, k => by
    rw [termsG, List.mem_append, termsG_mem (g := g) (l := r)]
    constructor
    · rintro (h | ⟨j, h1, h2⟩)
      · split at h
        · cases h
        · rename_i hc
          exact ⟨0, by simpa using hc, by simpa using h⟩
      · exact ⟨j + 1, h1, by rw [h2]; congr 2; omega⟩
    · rintro ⟨j, h1, h2⟩
      cases j with
      | zero =>
        simp only [List.getElem?_cons_zero, Option.some.injEq] at h1
        left; rw [if_neg (by rw [h1]; decide)]; simpa using h2
      | succ j => exact .inr ⟨j, h1, by rw [h2]; congr 2; omega⟩
theorem symbolsG_mem {g : GD} {z : Sym} : z ∈ symbolsG g ↔ symE g z = 0 := by
  unfold symbolsG
  rw [List.mem_append, List.mem_append, termsG_mem (g := []), List.mem_singleton]
  unfold namesL
  rw [List.mem_map]
  constructor
  · rintro ((⟨j, h1, rfl⟩ | rfl) | ⟨i, hi, rfl⟩)
    · have hj := (List.getElem?_eq_some_iff.1 h1).1
      unfold symE
      rw [if_pos rfl, if_pos (by simp only; omega), if_neg]
      rw [show (((0 + j : Nat) : Int)).toNat = j by omega, bang_of h1]; decide
    · rfl
    · rw [List.mem_range] at hi
      unfold symE
      rw [if_neg (by simp), if_neg (by simp), if_pos rfl, if_pos (by simp only; omega)]
  · intro h
    rcases symE_kind h with hk | hk | hk
    · left; left
      obtain ⟨h1, h2⟩ := symE_term h hk
      refine ⟨z.n.toNat, ?_, ?_⟩
      · have h3 := List.getElem?_eq_getElem (l := g.triv) (i := z.n.toNat) (by omega)
        rw [h3, ← bang_of h3, h2]
      · cases z; simp only at hk h1 ⊢; subst hk; congr 1; omega
    · right
      have h1 := symE_name h hk
      exact ⟨z.n.toNat, List.mem_range.2 (by omega), by cases z; simp only at hk h1 ⊢; subst hk; congr 1; omega⟩
    · left; right
      cases z; simp only at hk; obtain ⟨rfl, rfl⟩ := hk; rfl
def ltS (a b : Sym) : Prop := leSym a b = true ∧ a ≠ b
theorem termsG_srt : ∀ (l : List Bool) (k : Nat), (termsG l k).Pairwise ltS ∧ ∀ z ∈ termsG l k, z.kind = 1 ∧ (k : Int) ≤ z.n
  | [], _ => ⟨List.Pairwise.nil, fun x hx => by cases hx⟩
  | b :: r, k => by
    obtain ⟨h1, h2⟩ := termsG_srt r (k + 1)
    rw [termsG]
    split
    · exact ⟨h1, fun z hz => ⟨(h2 z hz).1, by have := (h2 z hz).2; omega⟩⟩
    · refine ⟨List.pairwise_cons.2 ⟨fun z hz => ?_, h1⟩, fun z hz => ?_⟩
      · obtain ⟨e1, e2⟩ := h2 z hz
        refine ⟨by rw [leSym_spec]; right; exact ⟨by rw [e1], by simp only; omega⟩, fun e => ?_⟩
        rw [← e] at e2; simp only at e2; omega
      · rcases List.mem_cons.1 hz with rfl | hz
        · exact ⟨rfl, Int.le_refl _⟩
        · exact ⟨(h2 z hz).1, by have := (h2 z hz).2; omega⟩
theorem symbolsG_srt (g : GD) : (symbolsG g).Pairwise ltS := by
  unfold symbolsG
  obtain ⟨h1, h2⟩ := termsG_srt g.triv 0
  have hn : ∀ z ∈ namesL g.names, z.kind = 3 := fun z hz => by
    unfold namesL at hz
    obtain ⟨i, _, rfl⟩ := List.mem_map.1 hz; rfl
  refine List.pairwise_append.2 ⟨List.pairwise_append.2 ⟨h1, List.pairwise_singleton _ _, fun a ha b hb => ?_⟩, ?_, fun a ha b hb => ?_⟩
  · have := (h2 a ha).1
    rw [List.mem_singleton.1 hb]
    exact ⟨by rw [leSym_spec]; left; rw [this]; decide, fun e => by rw [e] at this; exact absurd this (by decide)⟩
  · unfold namesL
    rw [List.pairwise_map]
    refine List.Pairwise.imp (fun {a b} h => ?_) List.pairwise_lt_range
    exact ⟨by rw [leSym_spec]; right; exact ⟨rfl, by simp only; omega⟩, fun e => by simp only [Sym.mk.injEq, true_and] at e; omega⟩
  · have h3 := hn b hb
    have h4 : a.kind = 1 ∨ a.kind = 2 := by
      rcases List.mem_append.1 ha with ha | ha
      · exact .inl (h2 a ha).1
      · rw [List.mem_singleton.1 ha]; exact .inr rfl
    exact ⟨by rw [leSym_spec]; left; omega, fun e => by rw [e] at h4; omega⟩
theorem ltS_unique {l m : List Sym} (h1 : l.Pairwise ltS) (h2 : m.Pairwise ltS) (hm : ∀ z, z ∈ l ↔ z ∈ m) : l = m := by
  have n1 : l.Nodup := h1.imp fun h => h.2
  have n2 : m.Nodup := h2.imp fun h => h.2
  exact ((List.perm_ext_iff_of_nodup n1 n2).2 hm).eq_of_pairwise (fun a b _ _ => leSym_anti) (h1.imp fun h => h.1) (h2.imp fun h => h.1)
theorem cmpP_srt : ∀ (l : List Sym) (p : Sym), l.Pairwise (leSym · · = true) → (∀ x ∈ l, leSym p x = true) → (cmpP p l).Pairwise (leSym · · = true) ∧ ∀ x ∈ cmpP p l, x ∈ l
  | [], p, _, _ => ⟨List.Pairwise.nil, fun x hx => by cases hx⟩
  | x :: l, p, h1, h2 => by
    have h3 := List.pairwise_cons.1 h1
    rw [cmpP]
    split
    · obtain ⟨h4, h5⟩ := cmpP_srt l p h3.2 (fun y hy => h2 y (by simp [hy]))
      exact ⟨h4, fun y hy => List.mem_cons_of_mem _ (h5 y hy)⟩
    · obtain ⟨h4, h5⟩ := cmpP_srt l x h3.2 h3.1
      refine ⟨List.pairwise_cons.2 ⟨fun y hy => h3.1 y (h5 y hy), h4⟩, fun y hy => ?_⟩
      rcases List.mem_cons.1 hy with rfl | hy
      · simp
      · exact List.mem_cons_of_mem _ (h5 y hy)
theorem symsG_srt (g : GD) (l : List Itm) : (symsG g l).Pairwise ltS := by
  have h1 : (symsG g l).Pairwise (leSym · · = true) := by
    unfold symsG
    have hs := srtSym_sorted (l.filterMap (behindG g))
    revert hs
    generalize srtSym (l.filterMap (behindG g)) = m
    intro hs
    cases m with
    | nil => exact List.Pairwise.nil
    | cons x r =>
      have h3 := List.pairwise_cons.1 hs
      obtain ⟨h4, h5⟩ := cmpP_srt r x h3.2 h3.1
      exact List.pairwise_cons.2 ⟨fun y hy => h3.1 y (h5 y hy), h4⟩
  exact (h1.and (symsG_nodup g l)).imp fun h => h
theorem behind_sym {g : GD} (hG : GoodG g) {x : Itm} (hx : okI g x) {z : Sym} (hb : behindG g x = some z) : symE g z = 0 := by
  unfold behindG rightG at hb
  split at hb
  · have := List.mem_of_getElem? hb
    rw [List.mem_singleton.1 this]
    have h0 := hG.1
    unfold symE
    rw [if_neg (by simp), if_neg (by simp), if_pos rfl, if_pos (by simp only; omega)]
  · rename_i hp
    have h1 := hx.1.resolve_left hp
    have h2 := List.getElem?_eq_getElem (l := g.prods) (i := x.p.toNat) (by omega)
    rw [bang_of h2] at hb
    exact (hG.2 _ (List.mem_of_getElem? h2)).2.2 z (List.mem_of_getElem? hb)
theorem symsG_as {g : GD} (hG : GoodG g) {l : List Itm} (hl : ∀ x ∈ l, okI g x) : symsG g l = (symbolsG g).filter fun z => decide (∃ y ∈ l, behindG g y = some z) := by
  refine ltS_unique (symsG_srt g l) ((symbolsG_srt g).filter _) fun z => ?_
  rw [symsG_mem, List.mem_filter, symbolsG_mem, decide_eq_true_eq]
  exact ⟨fun h => ⟨by obtain ⟨y, hy, hb⟩ := h; exact behind_sym hG (hl y hy) hb, h⟩, fun h => h.2⟩
theorem right16 {g : GD} (h : ∀ p ∈ g.prods, p.2.length ≤ 16) {x : Itm} (hx : okI g x) : (rightG g x.p).length ≤ 8796093022208 := by
  unfold rightG
  split
  · simp
  · rename_i hp
    have h1 := hx.1.resolve_left hp
    have h2 := List.getElem?_eq_getElem (l := g.prods) (i := x.p.toNat) (by omega)
    rw [bang_of h2]
    have := h _ (List.mem_of_getElem? h2)
    omega
theorem itemsT_yes {T : List Bool} {l : List P2} {k : Nat} {p : P2} (hp : l[k]? = some p) (h : T[p.1.toNat]! = true) : itemsT T (l.drop k) k = ⟨(k : Nat), 0⟩ :: itemsT T (l.drop (k + 1)) (k + 1) := by rw [drop_get hp, itemsT, if_pos h]; rfl
theorem itemsT_no {T : List Bool} {l : List P2} {k : Nat} {p : P2} (hp : l[k]? = some p) (h : T[p.1.toNat]! = false) : itemsT T (l.drop k) k = itemsT T (l.drop (k + 1)) (k + 1) := by rw [drop_get hp, itemsT, if_neg (by rw [h]; decide)]; rfl
structure CI (g : GD) (K : List Itm) (c0 : Nat) (h : List Bool) (ag : Bool) (i j : Nat) : Prop where
  sub : ∀ n : Nat, h[n]! = true → namesC g K n
  cnt : h.count false ≤ c0 ∧ (ag = true → h.count false < c0)
  clK : ag = false → ∀ x ∈ K.take i, (behindG g x).isSome = true → (bhS g x).kind = 3 → h[(bhS g x).n.toNat]! = true
  clP : ag = false → ∀ p ∈ g.prods.take j, h[p.1.toNat]! = true → ∀ z, p.2[0]? = some z → z.kind = 3 → h[z.n.toNat]! = true
structure CO (g : GD) (K : List Itm) (h : List Bool) (ag : Bool) : Prop where
  sub : ∀ n : Nat, h[n]! = true → namesC g K n
  cl : ag = false → clN g K h
section
variable {g : GD} {K : List Itm} {c0 i j : Nat} {h : List Bool} {ag : Bool} {p : P2} {x : Itm} {z : Sym}
theorem CO.start {n : Nat} : CO g K (List.replicate n false) true := ⟨fun m hm => by
  have hi := bang_lt hm
  rw [getElem!_def, List.getElem?_eq_getElem hi] at hm
  simp at hm, fun h => by cases h⟩
theorem CI.start (hC : CO g K h ag) : CI g K (h.count false) h false 0 0 := ⟨hC.sub, ⟨Nat.le_refl _, fun h => by cases h⟩, fun _ x hx => by simp at hx, fun _ p hp => by simp at hp⟩
theorem CO.next (hC : CI g K c0 h ag i j) (hi : K.length ≤ i) (hj : g.prods.length ≤ j) : CO g K h ag :=
  ⟨hC.sub, fun h9 => ⟨fun x hx => hC.clK h9 x (by rw [List.take_of_length_le hi]; exact hx), fun p hp => hC.clP h9 p (by rw [List.take_of_length_le hj]; exact hp)⟩⟩
theorem CI.kyes (hG : GoodG g) (hK : ∀ x ∈ K, okI g x) (hC : CI g K c0 h ag i 0) (hx : K[i]? = some x) (hb : (behindG g x).isSome = true) (hk : (bhS g x).kind = 3) (hv : h[(bhS g x).n.toNat]! = false) (hn : (bhS g x).n.toNat < h.length) : CI g K c0 (h.set (bhS g x).n.toNat true) true (i + 1) 0 := by
  have hc := count_set hv hn
  have h1 := hC.cnt.1
  refine ⟨fun n h9 => ?_, ⟨by omega, fun _ => by omega⟩, (fun h9 => by cases h9), (fun h9 => by cases h9)⟩
  rcases bang_set.1 h9 with h9 | ⟨rfl, _⟩
  · exact hC.sub n h9
  · exact namesC_kernel hG hK (List.mem_of_getElem? hx) hb hk
theorem CI.kskip (hC : CI g K c0 h ag i 0) (hx : K[i]? = some x) (he : (behindG g x).isSome = true → (bhS g x).kind = 3 → h[(bhS g x).n.toNat]! = true) : CI g K c0 h ag (i + 1) 0 :=
  ⟨hC.sub, hC.cnt, fun h9 y hy => (take_succ_mem hx hy).elim (fun hy => hC.clK h9 y hy) fun e => by rw [e]; exact he, hC.clP⟩
theorem CI.pyes (hG : GoodG g) (hK : ∀ x ∈ K, okI g x) (hK0 : ∀ x ∈ K, x.dot = 0 → x.p = -1) (hC : CI g K c0 h ag i j) (hp : g.prods[j]? = some p) (hl : h[p.1.toNat]! = true) (hz : p.2[0]? = some z) (hk : z.kind = 3) (hv : h[z.n.toNat]! = false) (hn : z.n.toNat < h.length) : CI g K c0 (h.set z.n.toNat true) true i (j + 1) := by
  have hc := count_set hv hn
  have h1 := hC.cnt.1
  refine ⟨fun n h9 => ?_, ⟨by omega, fun _ => by omega⟩, (fun h9 => by cases h9), (fun h9 => by cases h9)⟩
  rcases bang_set.1 h9 with h9 | ⟨rfl, _⟩
  · exact hC.sub n h9
  · exact namesC_prod hG hK hK0 (List.mem_of_getElem? hp) (hC.sub _ hl) hz hk
theorem CI.pskip (hC : CI g K c0 h ag i j) (hp : g.prods[j]? = some p) (he : h[p.1.toNat]! = true → ∀ z, p.2[0]? = some z → z.kind = 3 → h[z.n.toNat]! = true) : CI g K c0 h ag i (j + 1) :=
  ⟨hC.sub, hC.cnt, hC.clK, fun h9 q hq => (take_succ_mem hp hq).elim (fun hq => hC.clP h9 q hq) fun e => by rw [e]; exact he⟩
end
instance pf_74 : PlF Tryz.prog 74 := ⟨by kernel_rfl⟩
theorem closureR_calls (s : SP) (ba : Nat) (yA : Option Addr) (yn yc : Nat) (stA : Option Addr) (stn stc : Nat) (K : List Itm) (kA : Option Addr) (kc : Nat) (w : World) (hb : Blk w ba #[(.slice s.lA s.lex.length s.lc), (.slice s.nA s.names.length s.nc), (.int .i64 s.start), (.slice s.pA s.prods.length s.pc), (.slice yA yn yc), (.slice stA stn stc)] 89) (hS : SpR w s) (hG : GoodG s.g) (hK : ∀ x ∈ K, okI s.g x) (hK0 : ∀ x ∈ K, x.dot = 0 → x.p = -1) (hR16 : ∀ p ∈ s.g.prods, p.2.length ≤ 16) (hkR : RowA w kA (K.flatMap Itm.cs)) (hkn : K.length ≤ 1000000000) :
    Calls Tryz.prog 108 #[(.pointer (some ⟨ba, 0, none⟩)), (.slice kA K.length kc)] w (Ret (fun v w' => ∃ A' c', v = .slice A' (closG s.g K).length c' ∧ NewRow w w' 42 2 Itm.cs (closG s.g K) A' c' ∧ Ext w w')) := by
 have hfp := hS.fp.by; have hfl := hS.fl.by; have hfn := hS.fn.by
 refine calls_y (n := 141) Tryz.func108 ?_
 refine go ?_
 refine y_ld hb ?_
 refine go ?_
 refine yOp (ox_makeD (n := s.names.length) (l := ((List.replicate s.names.length false))) (cs := bools) tE_144.h rfl rfl (by omega) (by omega) (made_bools _) ?_)
 intro A1 w1 o1 e1 lo1
 have he1 := e1.size
 refine go ?_
 refine xc_loopN (fun m_ f_ Wx => ∃ (ag : Bool) (ra : List Bool), m_ = 2 * ra.count false + ag.toNat ∧ (CO s.g K ra ag) ∧ f_ 0 = (.pointer (some ⟨ba, 0, none⟩)) ∧ f_ 1 = (.slice kA K.length kc) ∧ f_ 4 = (.slice none 0 0) ∧ f_ 5 = (.slice A1 s.names.length s.names.length) ∧ f_ 6 = (.bool ag) ∧ Vx.Own Wx 4 1 (.slice A1 s.names.length s.names.length) s.names.length (ra.flatMap bools) ∧ Chg (fun b => ((.slice A1 s.names.length s.names.length) : Value).ownBlock = some b) w1 Wx) (2 * ((List.replicate s.names.length false)).count false + 1) ?_ ?_
 ·
  exact ⟨true, (List.replicate s.names.length false), (by first | rfl | omega | simp), CO.start, rfl, rfl, rfl, rfl, rfl, o1, (Chg.refl _ _)⟩
 ·
  rintro m_ f1 w2 ⟨ag, ra, hm_f1, hCO, g0_f1, g1_f1, g4_f1, g5_f1, g6_f1, o0_f1, x1⟩
  have hx1 := x1.size
  have hl_ra : ra.length = s.names.length := by have _q := (o0_f1).len; rw [fm_len bools_len] at _q; omega
  rw [← usf g0_f1, ← usf g1_f1, ← usf g4_f1, ← usf g5_f1, ← usf g6_f1]
  refine go ?_
  refine xc_cond (b := ag) rfl (fun h1 => ?_) (fun h1 => ?_)
  ·
   have h1' := bS h1
   have hag9 : ag = true := h1
   refine go ?_
   refine xc_loopN (fun m_ f_ Wx => ∃ (i : Nat) (ag1 : Bool) (ra1 : List Bool), m_ = K.length - i ∧ (i ≤ K.length) ∧ (CI s.g K (ra.count false) ra1 ag1 i 0) ∧ f_ 0 = (.pointer (some ⟨ba, 0, none⟩)) ∧ f_ 1 = (.slice kA K.length kc) ∧ f_ 4 = (.slice none 0 0) ∧ f_ 5 = (.slice A1 s.names.length s.names.length) ∧ f_ 21 = (.bool ag) ∧ f_ 7 = (.int .i64 ((i : Nat))) ∧ f_ 6 = (.bool ag1) ∧ Vx.Own Wx 4 1 (.slice A1 s.names.length s.names.length) s.names.length (ra1.flatMap bools) ∧ Chg (fun b => ((.slice A1 s.names.length s.names.length) : Value).ownBlock = some b) w2 Wx) (K.length) ?_ ?_
   ·
    exact ⟨0, false, ra, (by omega), (by omega), (CI.start hCO), rfl, rfl, rfl, rfl, rfl, vW, rfl, o0_f1, (Chg.refl _ _)⟩
   ·
    rintro m_ f2 w3 ⟨i, ag1, ra1, hm_f2, hi, hC1, g0_f2, g1_f2, g4_f2, g5_f2, g21_f2, g7_f2, g6_f2, o0_f2, x2⟩
    have hx2 := x2.size
    have hl_ra1 : ra1.length = s.names.length := by have _q := (o0_f2).len; rw [fm_len bools_len] at _q; omega
    rw [← usf g0_f2, ← usf g1_f2, ← usf g4_f2, ← usf g5_f2, ← usf g21_f2, ← usf g7_f2, ← usf g6_f2]
    refine go ?_
    refine y_if (fun h2 => ?_) (fun h2 => ?_)
    ·
     have x3 : Ext w w3 := (Chg.trans (Chg.trans e1 x1 (fun b hb hl => (absurd hl (by have _h := lo1 b hb; omega)))) x2 (fun b hb hl => (absurd hl (by have _h := lo1 b hb; omega))))
     obtain ⟨x_1, g_1, o_1, hx_1⟩ := row_may (A := kA) (cs := Itm.cs) i Itm.len (by decide) (RowA.ext hkR x3)
     obtain ⟨hx_2, hA_1, hc_1⟩ := hx_1 oM
     refine go ?_
     refine y_ix i hA_1 ?_
     refine y_lN (vs := [(.int .i64 x_1.p), (.int .i64 x_1.dot)]) hc_1 ?_
     have hko_x_1 := hK _ (List.mem_of_getElem? hx_2)
     have hbn_x_1 := fun h1 h2 => behind_name hG hko_x_1 h1 h2
     have hkp_x_1 := hko_x_1.1; have hkd_x_1 := hko_x_1.2; rw [s.gprods] at hkp_x_1
     have q1 := ((hb.ext e1).keep x1 (fun _h => o1.ne_blk (hb.ext e1) (by decide) _ _h rfl))
     have q2 := (q1.keep x2 (fun _h => o0_f1.ne_blk q1 (by decide) _ _h rfl))
     refine yCa (ret_mono (behindR_calls s ba yA yn yc stA stn stc x_1 w3 q2 (hS.ext x3) hkp_x_1 hkd_x_1 (right16 hR16 hko_x_1)) ?_)
     rintro _ w4 ⟨rfl, e2⟩
     have he2 := e2.size
     refine go ?_
     refine y_al ?_
     intro w5 e3 z2 b1
     refine y_st b1 ?_
     intro w6 e4 z3 b2
     replace b2 : Blk w6 w4.heap.size #[(.int .i64 ((bhS s.g x_1).kind)), (.int .i64 ((bhS s.g x_1).n))] 32 := blk_full b2 rfl
     refine go ?_
     by_cases h3 : ((behindG s.g x_1).isSome) = true
     ·
      refine ysL (s := 38) (bT h3) ?_
      refine go ?_
      refine y_ld b2 ?_
      refine go ?_
      by_cases h4 : ((bhS s.g x_1).kind : Int) = 3
      ·
       have hbr := hbn_x_1 h3 h4
       rw [show s.g.names = s.names.length from rfl] at hbr
       refine ysL (s := 43) (bT (decide_eq_true h4)) ?_
       refine go ?_
       refine y_ld b2 ?_
       have q3 := (((o0_f2.ext e2).ext e3).keep1 e4 (fun k hk => ((o0_f2.ext e2).ext e3).ne_blk b1 (by decide) k hk))
       obtain ⟨x_2, g_2, hx_3⟩ := own_may (A := A1) (((bhS s.g x_1).n).toNat) bools_len (by decide) q3
       obtain ⟨hx_4, hA_2, hc_2⟩ := hx_3 oM
       refine y_ix (((bhS s.g x_1).n).toNat) hA_2 ?_
       refine y_lc (CellsL.at1 hc_2 0 rfl) ?_
       refine go ?_
       refine xc_cond (b := (!x_2)) rfl (fun h5 => ?_) (fun h5 => ?_)
       ·
        have h5' := bS h5
        refine go ?_
        refine y_ld b2 ?_
        refine y_ix (((bhS s.g x_1).n).toNat) hA_2 ?_
        refine yNp (ox_stE (i := (((bhS s.g x_1).n).toNat)) (off := 0) (vs := [(.bool true)]) (b := (true : Bool)) bools_len tS_4.h hA_2 rfl (v := (.bool true)) rfl rfl rfl rfl q3 hx_4 rfl (by decide) (by omega) ?_)
        intro w7 e5 z4 o2
        refine go ?_
        refine y_add ?_
        have y1 : Chg (fun b => ((.slice A1 s.names.length s.names.length) : Value).ownBlock = some b) w2 w7 := (Chg.trans (Chg.chg1 (Chg.ext (Chg.ext (Chg.trans (Chg.refl (fun b => ((.slice A1 s.names.length s.names.length) : Value).ownBlock = some b) w2) x2 (fun b hb hl => hb)) e2) e3) e4 (.inr (by omega))) e5 (fun b hb hl => hb))
        refine go ?_
        exact ⟨rfl, K.length - (i + 1), by omega, i + 1, true, (ra1.set (((bhS s.g x_1).n).toNat) true), by omega, (by omega), (CI.kyes hG hK hC1 hx_2 h3 h4 ((bang_of hx_4).trans (by simp_all)) (by rw [hl_ra1]; omega)), rfl, rfl, rfl, rfl, rfl, vW, rfl, o2, y1⟩
       ·
        have h5' := bS h5
        refine go ?_
        refine y_add ?_
        have y2 : Chg (fun b => ((.slice A1 s.names.length s.names.length) : Value).ownBlock = some b) w2 w6 := (Chg.chg1 (Chg.ext (Chg.ext (Chg.trans (Chg.refl (fun b => ((.slice A1 s.names.length s.names.length) : Value).ownBlock = some b) w2) x2 (fun b hb hl => hb)) e2) e3) e4 (.inr (by omega)))
        refine go ?_
        exact ⟨rfl, K.length - (i + 1), by omega, i + 1, ag1, ra1, by omega, (by omega), (CI.kskip hC1 hx_2 (fun _ _ => (bang_of hx_4).trans (by simp_all))), rfl, rfl, rfl, rfl, rfl, vW, rfl, q3, y2⟩
      ·
       refine ysL (s := 43) (bF (decide_eq_false h4)) ?_
       refine go ?_
       refine y_add ?_
       have q4 := (((o0_f2.ext e2).ext e3).keep1 e4 (fun k hk => ((o0_f2.ext e2).ext e3).ne_blk b1 (by decide) k hk))
       have y3 : Chg (fun b => ((.slice A1 s.names.length s.names.length) : Value).ownBlock = some b) w2 w6 := (Chg.chg1 (Chg.ext (Chg.ext (Chg.trans (Chg.refl (fun b => ((.slice A1 s.names.length s.names.length) : Value).ownBlock = some b) w2) x2 (fun b hb hl => hb)) e2) e3) e4 (.inr (by omega)))
       refine go ?_
       exact ⟨rfl, K.length - (i + 1), by omega, i + 1, ag1, ra1, by omega, (by omega), (CI.kskip hC1 hx_2 (fun h1 h2 => by first | exact absurd h1 h3 | exact absurd h2 h4)), rfl, rfl, rfl, rfl, rfl, vW, rfl, q4, y3⟩
     ·
      refine ysL (s := 38) (bF (Bool.eq_false_iff.2 h3)) ?_
      refine go ?_
      refine y_add ?_
      have q5 := (((o0_f2.ext e2).ext e3).keep1 e4 (fun k hk => ((o0_f2.ext e2).ext e3).ne_blk b1 (by decide) k hk))
      have y4 : Chg (fun b => ((.slice A1 s.names.length s.names.length) : Value).ownBlock = some b) w2 w6 := (Chg.chg1 (Chg.ext (Chg.ext (Chg.trans (Chg.refl (fun b => ((.slice A1 s.names.length s.names.length) : Value).ownBlock = some b) w2) x2 (fun b hb hl => hb)) e2) e3) e4 (.inr (by omega)))
      refine go ?_
      exact ⟨rfl, K.length - (i + 1), by omega, i + 1, ag1, ra1, by omega, (by omega), (CI.kskip hC1 hx_2 (fun h1 h2 => by first | exact absurd h1 h3 | exact absurd h2 h3)), rfl, rfl, rfl, rfl, rfl, vW, rfl, q5, y4⟩
    ·
     refine go ?_
     refine xc_loopN (fun m_ f_ Wx => ∃ (j : Nat) (ag2 : Bool) (ra2 : List Bool), m_ = s.prods.length - j ∧ (j ≤ s.prods.length) ∧ (CI s.g K (ra.count false) ra2 ag2 i j) ∧ f_ 0 = (.pointer (some ⟨ba, 0, none⟩)) ∧ f_ 1 = (.slice kA K.length kc) ∧ f_ 4 = (.slice none 0 0) ∧ f_ 5 = (.slice A1 s.names.length s.names.length) ∧ f_ 21 = (.bool ag) ∧ f_ 7 = (.int .i64 ((i : Nat))) ∧ f_ 22 = (.int .i64 ((i : Nat))) ∧ f_ 23 = (.slice kA K.length kc) ∧ f_ 24 = (.int .i64 (((K.length : Nat) : Int))) ∧ f_ 25 = (.bool (decide (((i : Nat) : Int) < (((K.length : Nat) : Int))))) ∧ f_ 10 = (.int .i64 ((j : Nat))) ∧ f_ 6 = (.bool ag2) ∧ Vx.Own Wx 4 1 (.slice A1 s.names.length s.names.length) s.names.length (ra2.flatMap bools) ∧ Chg (fun b => ((.slice A1 s.names.length s.names.length) : Value).ownBlock = some b) w3 Wx) (s.prods.length) ?_ ?_
     ·
      exact ⟨0, ag1, ra1, (by omega), (by omega), (hC1), rfl, rfl, rfl, rfl, rfl, rfl, rfl, rfl, rfl, rfl, vW, rfl, o0_f2, (Chg.refl _ _)⟩
     ·
      rintro m_ f3 w8 ⟨j, ag2, ra2, hm_f3, hj, hC2, g0_f3, g1_f3, g4_f3, g5_f3, g21_f3, g7_f3, g22_f3, g23_f3, g24_f3, g25_f3, g10_f3, g6_f3, o0_f3, x4⟩
      have hx4 := x4.size
      have hl_ra2 : ra2.length = s.names.length := by have _q := (o0_f3).len; rw [fm_len bools_len] at _q; omega
      rw [← usf g0_f3, ← usf g1_f3, ← usf g4_f3, ← usf g5_f3, ← usf g21_f3, ← usf g7_f3, ← usf g22_f3, ← usf g23_f3, ← usf g24_f3, ← usf g25_f3, ← usf g10_f3, ← usf g6_f3]
      have q6 := ((hb.ext e1).keep x1 (fun _h => o1.ne_blk (hb.ext e1) (by decide) _ _h rfl))
      have q7 := (q6.keep x2 (fun _h => o0_f1.ne_blk q6 (by decide) _ _h rfl))
      have q8 := (q7.keep x4 (fun _h => o0_f2.ne_blk q7 (by decide) _ _h rfl))
      refine go ?_
      refine y_ld q8 ?_
      refine go ?_
      refine y_if (fun h6 => ?_) (fun h6 => ?_)
      ·
       refine go ?_
       refine y_ld q8 ?_
       have x5 : Ext w w8 := (Chg.trans (Chg.trans (Chg.trans e1 x1 (fun b hb hl => (absurd hl (by have _h := lo1 b hb; omega)))) x2 (fun b hb hl => (absurd hl (by have _h := lo1 b hb; omega)))) x4 (fun b hb hl => (absurd hl (by have _h := lo1 b hb; omega))))
       obtain ⟨x_3, g_3, o_3, hx_5⟩ := row_may (A := s.pA) (cs := PD.cs) j PD.len (by decide) (RowA.ext hS.prods x5)
       obtain ⟨hx_6, hA_3, hc_3⟩ := hx_5 oM
       have hfr_x_3 := (hS.fr _ (List.mem_of_getElem? hx_6)).le
       have hgd_x_3 := hG.2 _ (List.mem_of_getElem? (map_get (f := PD.d) hx_6))
       have hgl_x_3 : 0 ≤ x_3.left ∧ x_3.left < (s.names.length : Int) := ⟨hgd_x_3.1, hgd_x_3.2.1⟩
       refine go ?_
       refine y_ix j hA_3 ?_
       refine y_lN (vs := [(.int .i64 x_3.left), (.slice x_3.rA x_3.right.length x_3.rc)]) hc_3 ?_
       refine y_al ?_
       intro w9 e6 z5 b3
       refine y_st b3 ?_
       intro w10 e7 z6 b4
       replace b4 : Blk w10 w8.heap.size #[(.int .i64 x_3.left), (.slice x_3.rA x_3.right.length x_3.rc)] 37 := blk_full b4 rfl
       refine go ?_
       refine y_ld b4 ?_
       have q9 := ((o0_f3.ext e6).keep1 e7 (fun k hk => (o0_f3.ext e6).ne_blk b3 (by decide) k hk))
       obtain ⟨x_4, g_4, hx_7⟩ := own_may (A := A1) x_3.left.toNat bools_len (by decide) q9
       obtain ⟨hx_8, hA_4, hc_4⟩ := hx_7 oM
       refine y_ix x_3.left.toNat hA_4 ?_
       refine y_lc (CellsL.at1 hc_4 0 rfl) ?_
       refine go ?_
       by_cases h7 : x_4 = true
       ·
        refine ysL (s := 78) (bT h7) ?_
        refine go ?_
        refine y_ld b4 ?_
        refine go ?_
        by_cases h8 : (0 : Int) < (((x_3.right.length : Nat) : Int))
        ·
         refine ysL (s := 84) (bT (decide_eq_true h8)) ?_
         refine go ?_
         refine y_ld b4 ?_
         have x6 : Ext w w10 := (Ext.chg1 (Ext.trans x5 e6) e7 (by omega))
         obtain ⟨x_5, g_5, o_5, hx_9⟩ := row_may (A := x_3.rA) (cs := Sym.cs) 0 Sym.len (by decide) (RowA.ext ((hS.right _ (List.mem_of_getElem? hx_6))) x6)
         obtain ⟨hx_10, hA_5, hc_5⟩ := hx_9 oM
         have hsn_x_5 := fun hk => symE_name (hgd_x_3.2.2 _ (List.mem_of_getElem? hx_10)) hk
         rw [show s.g.names = s.names.length from rfl] at hsn_x_5
         refine y_ix 0 hA_5 ?_
         refine go ?_
         refine y_lc (CellsL.at1 hc_5 0 rfl) ?_
         refine go ?_
         by_cases h9 : (x_5.kind : Int) = 3
         ·
          have hnr := hsn_x_5 (by omega)
          refine ysL (s := 92) (bT (decide_eq_true h9)) ?_
          refine go ?_
          refine y_ld b4 ?_
          refine y_ix 0 hA_5 ?_
          refine go ?_
          refine y_lc (CellsL.at1 hc_5 1 rfl) ?_
          obtain ⟨x_6, g_6, hx_11⟩ := own_may (A := A1) x_5.n.toNat bools_len (by decide) q9
          obtain ⟨hx_12, hA_6, hc_6⟩ := hx_11 oM
          refine y_ix x_5.n.toNat hA_6 ?_
          refine y_lc (CellsL.at1 hc_6 0 rfl) ?_
          refine go ?_
          refine xc_cond (b := (!x_6)) rfl (fun h10 => ?_) (fun h10 => ?_)
          ·
           have h10' := bS h10
           refine go ?_
           refine y_ld b4 ?_
           refine y_ix 0 hA_5 ?_
           refine go ?_
           refine y_lc (CellsL.at1 hc_5 1 rfl) ?_
           refine y_ix x_5.n.toNat hA_6 ?_
           refine yNp (ox_stE (i := x_5.n.toNat) (off := 0) (vs := [(.bool true)]) (b := (true : Bool)) bools_len tS_4.h hA_6 rfl (v := (.bool true)) rfl rfl rfl rfl q9 hx_12 rfl (by decide) (by omega) ?_)
           intro w11 e8 z7 o3
           refine go ?_
           refine y_add ?_
           have y5 : Chg (fun b => ((.slice A1 s.names.length s.names.length) : Value).ownBlock = some b) w3 w11 := (Chg.trans (Chg.chg1 (Chg.ext (Chg.trans (Chg.refl (fun b => ((.slice A1 s.names.length s.names.length) : Value).ownBlock = some b) w3) x4 (fun b hb hl => hb)) e6) e7 (.inr (by omega))) e8 (fun b hb hl => hb))
           refine go ?_
           exact ⟨rfl, s.prods.length - (j + 1), by omega, j + 1, true, (ra2.set x_5.n.toNat true), by omega, (by omega), (CI.pyes hG hK hK0 hC2 (map_get (f := PD.d) hx_6) ((bang_of hx_8).trans (by simp_all)) (show x_3.d.2[0]? = some _ from hx_10) (by omega) ((bang_of hx_12).trans (by simp_all)) (by rw [hl_ra2]; omega)), rfl, rfl, rfl, rfl, rfl, rfl, rfl, rfl, rfl, rfl, vW, rfl, o3, y5⟩
          ·
           have h10' := bS h10
           refine go ?_
           refine y_add ?_
           have y6 : Chg (fun b => ((.slice A1 s.names.length s.names.length) : Value).ownBlock = some b) w3 w10 := (Chg.chg1 (Chg.ext (Chg.trans (Chg.refl (fun b => ((.slice A1 s.names.length s.names.length) : Value).ownBlock = some b) w3) x4 (fun b hb hl => hb)) e6) e7 (.inr (by omega)))
           refine go ?_
           exact ⟨rfl, s.prods.length - (j + 1), by omega, j + 1, ag2, ra2, by omega, (by omega), (CI.pskip hC2 (map_get (f := PD.d) hx_6) (fun _ z hz hk => by have h9 : some _ = some z := hx_10.symm.trans (show x_3.right[0]? = some z from hz); cases h9; exact (bang_of hx_12).trans (by simp_all))), rfl, rfl, rfl, rfl, rfl, rfl, rfl, rfl, rfl, rfl, vW, rfl, q9, y6⟩
         ·
          refine ysL (s := 92) (bF (decide_eq_false h9)) ?_
          refine go ?_
          refine y_add ?_
          have y7 : Chg (fun b => ((.slice A1 s.names.length s.names.length) : Value).ownBlock = some b) w3 w10 := (Chg.chg1 (Chg.ext (Chg.trans (Chg.refl (fun b => ((.slice A1 s.names.length s.names.length) : Value).ownBlock = some b) w3) x4 (fun b hb hl => hb)) e6) e7 (.inr (by omega)))
          refine go ?_
          exact ⟨rfl, s.prods.length - (j + 1), by omega, j + 1, ag2, ra2, by omega, (by omega), (CI.pskip hC2 (map_get (f := PD.d) hx_6) (fun _ z hz hk => by have h9 : some _ = some z := hx_10.symm.trans (show x_3.right[0]? = some z from hz); cases h9; omega)), rfl, rfl, rfl, rfl, rfl, rfl, rfl, rfl, rfl, rfl, vW, rfl, q9, y7⟩
        ·
         refine ysL (s := 84) (bF (decide_eq_false h8)) ?_
         refine go ?_
         refine y_add ?_
         have y8 : Chg (fun b => ((.slice A1 s.names.length s.names.length) : Value).ownBlock = some b) w3 w10 := (Chg.chg1 (Chg.ext (Chg.trans (Chg.refl (fun b => ((.slice A1 s.names.length s.names.length) : Value).ownBlock = some b) w3) x4 (fun b hb hl => hb)) e6) e7 (.inr (by omega)))
         refine go ?_
         exact ⟨rfl, s.prods.length - (j + 1), by omega, j + 1, ag2, ra2, by omega, (by omega), (CI.pskip hC2 (map_get (f := PD.d) hx_6) (fun _ z hz hk => by have h9 := (List.getElem?_eq_some_iff.1 (show x_3.right[0]? = some z from hz)).1; omega)), rfl, rfl, rfl, rfl, rfl, rfl, rfl, rfl, rfl, rfl, vW, rfl, q9, y8⟩
       ·
        refine ysL (s := 78) (bF (Bool.eq_false_iff.2 h7)) ?_
        refine go ?_
        refine y_add ?_
        have y9 : Chg (fun b => ((.slice A1 s.names.length s.names.length) : Value).ownBlock = some b) w3 w10 := (Chg.chg1 (Chg.ext (Chg.trans (Chg.refl (fun b => ((.slice A1 s.names.length s.names.length) : Value).ownBlock = some b) w3) x4 (fun b hb hl => hb)) e6) e7 (.inr (by omega)))
        refine go ?_
        exact ⟨rfl, s.prods.length - (j + 1), by omega, j + 1, ag2, ra2, by omega, (by omega), (CI.pskip hC2 (map_get (f := PD.d) hx_6) (fun h8 => absurd ((bang_of hx_8).symm.trans h8) (by simp_all))), rfl, rfl, rfl, rfl, rfl, rfl, rfl, rfl, rfl, rfl, vW, rfl, q9, y9⟩
      ·
       have y10 : Chg (fun b => ((.slice A1 s.names.length s.names.length) : Value).ownBlock = some b) w1 w8 := (Chg.trans (Chg.trans (Chg.trans (Chg.refl (fun b => ((.slice A1 s.names.length s.names.length) : Value).ownBlock = some b) w1) x1 (fun b hb hl => hb)) x2 (fun b hb hl => hb)) x4 (fun b hb hl => hb))
       refine go ?_
       exact ⟨rfl, 2 * ra2.count false + ag2.toNat, by exact mu_lt hm_f1 hag9 hC2.cnt, ag2, ra2, by rfl, (CO.next hC2 (by omega) (by rw [s.gprods]; omega)), rfl, rfl, rfl, rfl, rfl, o0_f3, y10⟩
  ·
   have h1' := bS h1
   have hcN : clN s.g K ra := by rw [h1] at hCO; exact hCO.cl rfl
   have hcl := closG_as hG hK hK0 hCO.sub hcN
   have x7 : Ext w w2 := (Chg.trans e1 x1 (fun b hb hl => (absurd hl (by have _h := lo1 b hb; omega))))
   refine go ?_
   refine yOp (ox_appR (l := ([])) (r := K) (cs := Itm.cs) rfl tE_39.h rfl (by decide) Itm.len Itm.one (v := (.slice none 0 0)) rfl rfl (Vx.Own.nil w2 42 2) (RowA.ext hkR x7) aM (by decide) ?_)
   intro A2 c1 w12 o4 e9 at1 hc1
   have he9 := e9.size
   replace at1 : (Value.slice A2 (K).length c1).ownBlock = ((.slice none 0 0) : Value).ownBlock ∨ (Value.slice A2 (K).length c1).ownBlock = some w2.heap.size := at1
   replace o4 : Vx.Own w12 42 2 (.slice A2 (K).length c1) (K).length ((K).flatMap Itm.cs) := o4
   have low1 : ∀ _k, (Value.slice A2 (K).length c1).ownBlock = some _k → w2.heap.size ≤ _k := fun _k _h => by rcases at1 with _e | _e <;> rw [_e] at _h; exact (fun _k _h => by simp [Value.ownBlock] at _h) _k _h; exact (by cases _h; omega)
   refine go ?_
   refine xc_loopN (fun m_ f_ Wx => ∃ (q : Nat) (y : List Itm) (Ay : Option Addr) (cy : Nat), m_ = s.prods.length - q ∧ (q ≤ s.prods.length) ∧ (y ++ itemsT ra (s.g.prods.drop q) q = closG s.g K) ∧ (y.length ≤ K.length + q) ∧ f_ 0 = (.pointer (some ⟨ba, 0, none⟩)) ∧ f_ 1 = (.slice kA K.length kc) ∧ f_ 4 = (.slice none 0 0) ∧ f_ 5 = (.slice A1 s.names.length s.names.length) ∧ f_ 6 = (.bool ag) ∧ f_ 21 = (.bool ag) ∧ f_ 110 = (.slice none 0 0) ∧ f_ 111 = (.slice kA K.length kc) ∧ f_ 112 = (.slice A2 ((K).length) c1) ∧ f_ 13 = (.int .i64 ((q : Nat))) ∧ f_ 12 = (.slice Ay y.length cy) ∧ Vx.Own Wx 42 2 (.slice Ay y.length cy) y.length (y.flatMap Itm.cs) ∧ (∀ k, ((.slice Ay y.length cy) : Value).ownBlock = some k → w2.heap.size ≤ k) ∧ (∀ k, ((.slice Ay y.length cy) : Value).ownBlock = some k → ((.slice A2 ((K).length) c1) : Value).ownBlock = some k ∨ w12.heap.size ≤ k) ∧ Chg (fun b => ((.slice A2 ((K).length) c1) : Value).ownBlock = some b) w12 Wx) (s.prods.length) ?_ ?_
   ·
    exact ⟨0, K, A2, c1, (by omega), (by omega), (by rw [hcl] <;> rfl), (by simp), rfl, rfl, rfl, rfl, rfl, rfl, rfl, rfl, rfl, vW, rfl, o4, low1, (fun k hk => .inl hk), (Chg.refl _ _)⟩
   ·
    rintro m_ f4 w13 ⟨q, y, Ay, cy, hm_f4, hq, hy, hyl, g0_f4, g1_f4, g4_f4, g5_f4, g6_f4, g21_f4, g110_f4, g111_f4, g112_f4, g13_f4, g12_f4, a0_f4, l0_f4, r0_f4, x8⟩
    have hx8 := x8.size
    rw [← usf g0_f4, ← usf g1_f4, ← usf g4_f4, ← usf g5_f4, ← usf g6_f4, ← usf g21_f4, ← usf g110_f4, ← usf g111_f4, ← usf g112_f4, ← usf g13_f4, ← usf g12_f4]
    have q10 := ((hb.ext e1).keep x1 (fun _h => o1.ne_blk (hb.ext e1) (by decide) _ _h rfl))
    have q11 := (q10.keep e9 (fun _h => (Vx.Own.nil w2 42 2).ne_blk q10 (by decide) _ _h rfl))
    have q12 := (q11.keep x8 (fun _h => o4.ne_blk q11 (by decide) _ _h rfl))
    refine go ?_
    refine y_ld q12 ?_
    refine go ?_
    refine y_if (fun h11 => ?_) (fun h11 => ?_)
    ·
     refine go ?_
     refine y_ld q12 ?_
     have x9 : Ext w w13 := (Chg.trans (Chg.trans x7 e9 (fun b hb hl => (by simp [Value.ownBlock] at hb))) x8 (fun b hb hl => (absurd hl (by have _h := low1 b hb; omega))))
     obtain ⟨x_7, g_7, o_7, hx_13⟩ := row_may (A := s.pA) (cs := PD.cs) q PD.len (by decide) (RowA.ext hS.prods x9)
     obtain ⟨hx_14, hA_7, hc_7⟩ := hx_13 oM
     have hfr_x_7 := (hS.fr _ (List.mem_of_getElem? hx_14)).le
     have hgd_x_7 := hG.2 _ (List.mem_of_getElem? (map_get (f := PD.d) hx_14))
     have hgl_x_7 : 0 ≤ x_7.left ∧ x_7.left < (s.names.length : Int) := ⟨hgd_x_7.1, hgd_x_7.2.1⟩
     refine go ?_
     refine y_ix q hA_7 ?_
     refine go ?_
     refine y_lc (CellsL.at1 hc_7 0 rfl) ?_
     have q13 := (o0_f1.keep e9 (fun _k _hk => o0_f1.ne_own (Vx.Own.nil w2 42 2) (by decide) _k _hk))
     have q14 := (q13.keep x8 (fun _k _hk => q13.ne_own o4 (by decide) _k _hk))
     obtain ⟨x_8, g_8, hx_15⟩ := own_may (A := A1) x_7.left.toNat bools_len (by decide) q14
     obtain ⟨hx_16, hA_8, hc_8⟩ := hx_15 oM
     refine y_ix x_7.left.toNat hA_8 ?_
     refine y_lc (CellsL.at1 hc_8 0 rfl) ?_
     refine go ?_
     refine xc_cond (b := x_8) rfl (fun h12 => ?_) (fun h12 => ?_)
     ·
      have h12' := bS h12
      refine go ?_
      refine yOp (ox_mkStruct (ps := [(0, (.int .i64 ((q : Nat))))]) (cs := #[(.int .i64 ((q : Nat))), (.int .i64 0)]) tZ_42.h tP_42.h rfl (by kernel_rfl) ?_)
      refine yOp (ox_mkSlice (ps := [(0, (.agg #[(.int .i64 ((q : Nat))), (.int .i64 0)]))]) (zs := #[(.int .i64 0), (.int .i64 0)]) (cs := #[(.int .i64 ((q : Nat))), (.int .i64 0)]) tE_39.h rfl (by decide) (by kernel_rfl) (by kernel_rfl) ?_)
      intro w14 e10 z8 b5
      replace b5 : Blk w14 w13.heap.size #[(.int .i64 ((q : Nat))), (.int .i64 0)] 42 := b5
      refine yOp (ox_appD (l := y) (r := [(⟨(q : Nat), 0⟩ : Itm)]) (cs := Itm.cs) rfl tE_39.h rfl (by decide) Itm.len Itm.one (v := (.slice Ay y.length cy)) rfl rfl (m := 1) rfl (a0_f4.ext e10) b5.all aM (by decide) ?_)
      intro A3 c2 w15 o5 e11 at2 hc2
      have he11 := e11.size
      have low2 : ∀ _k, (Value.slice A3 (y ++ [(⟨(q : Nat), 0⟩ : Itm)]).length c2).ownBlock = some _k → w2.heap.size ≤ _k := fun _k _h => by rcases at2 with _e | _e <;> rw [_e] at _h; exact l0_f4 _k _h; exact (by cases _h; omega)
      have rel1 : ∀ _k, (Value.slice A3 (y ++ [(⟨(q : Nat), 0⟩ : Itm)]).length c2).ownBlock = some _k → ((.slice A2 ((K).length) c1) : Value).ownBlock = some _k ∨ w12.heap.size ≤ _k := fun _k _h => by rcases at2 with _e | _e <;> rw [_e] at _h; exact r0_f4 _k _h; exact .inr (by cases _h; omega)
      refine go ?_
      refine y_add ?_
      have y11 : Chg (fun b => ((.slice A2 ((K).length) c1) : Value).ownBlock = some b) w12 w15 := (Chg.trans (Chg.ext (Chg.trans (Chg.refl (fun b => ((.slice A2 ((K).length) c1) : Value).ownBlock = some b) w12) x8 (fun b hb hl => hb)) e10) e11 (fun b hb hl => (r0_f4 b hb).elim (fun hb => hb) (fun _h => absurd hl (by omega))))
      refine go ?_
      exact ⟨rfl, s.prods.length - (q + 1), by omega, q + 1, y ++ [(⟨(q : Nat), 0⟩ : Itm)], A3, c2, by omega, (by omega), (by rw [← hy, itemsT_yes (l := s.g.prods) (map_get (f := PD.d) hx_14) ((bang_of hx_16).trans (by simp_all))]; simp), (by first | omega | (simp only [List.length_append, List.length_cons, List.length_nil]; omega)), rfl, rfl, rfl, rfl, rfl, rfl, rfl, rfl, rfl, vW, rfl, o5, low2, rel1, y11⟩
     ·
      have h12' := bS h12
      refine go ?_
      refine y_add ?_
      have y12 : Chg (fun b => ((.slice A2 ((K).length) c1) : Value).ownBlock = some b) w12 w13 := (Chg.trans (Chg.refl (fun b => ((.slice A2 ((K).length) c1) : Value).ownBlock = some b) w12) x8 (fun b hb hl => hb))
      refine go ?_
      exact ⟨rfl, s.prods.length - (q + 1), by omega, q + 1, y, Ay, cy, by omega, (by omega), (by rw [← hy, itemsT_no (l := s.g.prods) (map_get (f := PD.d) hx_14) ((bang_of hx_16).trans (by simp_all))]), (by first | omega | (simp only [List.length_append, List.length_cons, List.length_nil]; omega)), rfl, rfl, rfl, rfl, rfl, rfl, rfl, rfl, rfl, vW, rfl, a0_f4, l0_f4, r0_f4, y12⟩
    ·
     refine go ?_
     refine y_r1 ?_
     have hy9 : y = closG s.g K := by rw [← hy, List.drop_of_length_le (by rw [s.gprods]; omega)]; simp [itemsT]
     have x10 : Ext w w13 := (Chg.trans (Chg.trans x7 e9 (fun b hb hl => (by simp [Value.ownBlock] at hb))) x8 (fun b hb hl => (absurd hl (by have _h := low1 b hb; omega))))
     exact ⟨_, _, by rw [← hy9] <;> rfl, by rw [← hy9]; exact ⟨a0_f4, fun k hk => by have _h := l0_f4 k hk; omega⟩, x10⟩
def allR (st : List ASt) (n : Nat) (as_ : Array Value) (W : World) : Prop := ∃ A c, as_ = #[.int .i64 (n : Nat), .slice A (kernS st (n : Nat)).length c] ∧ Vx.Own W 42 2 (.slice A (kernS st (n : Nat)).length c) (kernS st (n : Nat)).length ((kernS st (n : Nat)).flatMap Itm.cs)
theorem range_prefix {i n : Nat} (h : i ≤ n) : List.range i <+: List.range n := by
  have := List.take_prefix i (List.range n)
  rw [List.take_range, Nat.min_eq_left h] at this; exact this
theorem allR_size {st : List ASt} (x : Nat) (as_ : Array Value) (W : World) (h : allR st x as_ W) : as_.size = 2 := by
  obtain ⟨A, c, rfl, _⟩ := h; rfl
theorem allR_cells {st : List ASt} (x : Nat) (as_ : Array Value) (W : World) (h : allR st x as_ W) (b : Nat) (hb : asOwn as_ b) : ∃ cs e fz, W.heap[b]? = some (.cells cs e fz) := by
  obtain ⟨A, c, rfl, ho⟩ := h
  obtain ⟨v, hv, hob⟩ := hb
  simp only [List.mem_cons, List.not_mem_nil, or_false] at hv
  rcases hv with rfl | rfl
  · simp [Value.ownBlock] at hob
  · obtain ⟨cs, h9⟩ := own_type ho hob
    exact ⟨cs, _, _, h9⟩
instance pf_25 : PlF Tryz.prog 25 := ⟨by kernel_rfl⟩
theorem allF_calls (l B Bx bx ba : Nat) (w0 : World) (s1 : SP) (st : List ASt) (X : Nat → Prop) (J Jx : List Nat → (Nat → Prop) → World → Prop) (w : World) (hb : Blk w bx #[.pointer (some ⟨ba, 0, none⟩)] 28) (hA : AutX Bx w0 s1 ba st) (hw0 : w0.heap.size ≤ B) (hc0 : Chg (fun b => B ≤ b) w0 w) (hbig : st.length ≤ 100000000000) (hXb : X bx ∨ bx < B) (hX : ∀ b, X b → B ≤ b ∧ b < w.heap.size) (hBw : B ≤ w.heap.size) (hJ : Stab B J) (hy : IterYE Tryz.prog l (allR st) B (List.range st.length) J Jx) (h0 : J [] X w) :
    Calls Tryz.prog 54 #[(.func (.yield l) #[] #[]), (.pointer (some ⟨bx, 0, none⟩))] w (Ret (IterR B (List.range st.length) J Jx)) := by
 refine calls_y (n := 20) Tryz.func54 ?_
 obtain ⟨⟨s2, sA, sc, sts, hd, hO, hR⟩, haut⟩ := hA.keepC hc0 (fun b _ h2 (h3 : B ≤ b) => by omega)
 have hlen : sts.length = st.length := by rw [← hd, List.length_map]
 have hba := hR.ba
 rw [hlen] at hba
 refine go ?_
 refine y_ld hb ?_
 refine go ?_
 refine y_ld hba ?_
 refine go ?_
 refine xc_loopN (fun m f W => ∃ (i : Nat), m = st.length - i ∧ i ≤ st.length ∧ f 0 = (.func (.yield l) #[] #[]) ∧ f 1 = (.pointer (some ⟨bx, 0, none⟩)) ∧ f 8 = (.int .i64 (((st.length : Nat) : Int))) ∧ f 9 = (.int .i64 ((i : Nat))) ∧ Blk W bx #[.pointer (some ⟨ba, 0, none⟩)] 28 ∧ (∀ b, X b → B ≤ b ∧ b < W.heap.size) ∧ J (List.range i) X W ∧ Chg (fun b => B ≤ b) w0 W ∧ B ≤ W.heap.size) (st.length) ?_ ?_
 ·
  exact ⟨0, by omega, by omega, rfl, rfl, rfl, vW, hb, hX, h0, hc0, hBw⟩
 ·
  rintro m f1 w1 ⟨i, hm, hi, g0_f1, g1_f1, g8_f1, g9_f1, b_f1, x_f1, i_f1, c_f1, s_f1⟩
  rw [← usf g0_f1, ← usf g1_f1, ← usf g8_f1, ← usf g9_f1]
  refine go ?_
  refine y_if (fun h1 => ?_) (fun h1 => ?_)
  ·
   have hil : i < st.length := by omega
   have hpf : (List.range i ++ [i]) <+: List.range st.length := by rw [← List.range_succ]; exact range_prefix (by omega)
   refine go ?_
   refine y_ld b_f1 ?_
   refine go ?_
   refine yCa (ret_mono (autx_kern (hA.keepC c_f1 (fun b _ h2 (h3 : B ≤ b) => by omega)) (i : Nat)) ?_)
   rintro _ w2 ⟨A1, c1, rfl, hn1, e1⟩
   have he1 := e1.size
   refine yOp (ox_callY (al := [(.int .i64 ((i : Nat))), (.slice A1 ((kernS st (i : Nat)).length) c1)]) rfl rfl (yield_b (hy _ i _ X _ hpf (fun b hb => by have := x_f1 b hb; omega) ⟨A1, c1, rfl, hn1.1⟩ (fun b hb => by obtain ⟨v, hv, hob⟩ := hb; simp only [List.mem_cons, List.not_mem_nil, or_false] at hv; rcases hv with rfl | rfl; simp [Value.ownBlock] at hob; have h8 := hn1.2 b hob; exact ⟨fun h9 => by have := x_f1 b h9; omega, by omega⟩) (hJ _ _ _ _ _ x_f1 i_f1 (Ext.to e1) (fun b hb => .inl hb))) ?_))
   intro β1 w3 hj1 hx1
   refine go ?_
   refine xc_cond (b := (!β1)) rfl (fun h2 => ?_) (fun h2 => ?_)
   ·
    have h2' := bS h2
    obtain ⟨hjx, hsz⟩ := hx1 (by simpa using h2)
    refine go ?_
    refine y_r0 ?_
    exact ⟨X, fun b hb => by have := x_f1 b hb; have := hsz.size; omega, .inr ⟨_, hpf, hjx⟩⟩
   ·
    have h2' := bS h2
    obtain ⟨hji, hmi⟩ := hj1 (by simpa using h2)
    refine go ?_
    refine y_add ?_
    refine go ?_
    exact ⟨rfl, st.length - (i + 1), by omega, i + 1, by omega, by omega, rfl, rfl, rfl, vW, ((b_f1.ext e1).keep hmi (fun h => hXb.elim h.1 (by have := h.2; omega))), (fun b hb => by have := x_f1 b hb; have := hmi.size; omega), (by rw [List.range_succ]; exact hji), (Chg.trans (Chg.ext c_f1 e1) hmi (fun b hb _ => hb.2)), (by have := hmi.size; omega)⟩
  ·
   refine go ?_
   refine y_r0 ?_
   exact ⟨X, x_f1, .inl (by rw [show i = st.length by omega] at i_f1; exact i_f1)⟩
theorem all_iter {B Bx bx ba : Nat} {w0 w : World} {s1 : SP} {st : List ASt} {X : Nat → Prop} (hb : Blk w bx #[.pointer (some ⟨ba, 0, none⟩)] 28) (hA : AutX Bx w0 s1 ba st) (hw0 : w0.heap.size ≤ B) (hc0 : Chg (fun b => B ≤ b) w0 w) (hXb : X bx ∨ bx < B)
    (hX : ∀ b, X b → B ≤ b ∧ b < w.heap.size) (hB : B ≤ w.heap.size) : IterE Tryz.prog 54 #[.pointer (some ⟨bx, 0, none⟩)] (allR st) B X (List.range st.length) w :=
  IterE.mk (lb := [.pointer (some ⟨bx, 0, none⟩)]) fun l J Jx W hm hJ hJx hy h0 => allF_calls l B Bx bx ba w0 s1 st X J Jx W (hb.keep hm fun h => hXb.elim h.1 (by have := h.2; omega)) hA hw0 (Chg.trans hc0 hm fun b hb _ => hb.2) hA.aut.big hXb
    (fun b hb => ⟨(hX b hb).1, by have := (hX b hb).2; have := hm.size; omega⟩) (by have := hm.size; omega) hJ hy h0
instance pf_70 : PlF Tryz.prog 70 := ⟨by kernel_rfl⟩
instance pf_71 : PlF Tryz.prog 71 := ⟨by kernel_rfl⟩
theorem smallT (n : Int) (w : World)  :
    Calls Tryz.prog 70 #[(.int .i64 n)] w (Ret (fun v w' => v = .agg #[.int .i64 1, .int .i64 n] ∧ Ext w w')) := by
 refine calls_y (n := 5) Tryz.func70 ?_
 refine go ?_
 refine y_al ?_
 intro w1 e1 z1 b1
 refine go ?_
 refine yOp (ox_mkStruct (ps := [(0, (.int .i64 1)), (1, (.int .i64 n))]) (cs := #[(.int .i64 1), (.int .i64 n)]) tZ_32.h tP_32.h rfl (by kernel_rfl) ?_)
 refine y_st b1 ?_
 intro w2 e2 z2 b2
 replace b2 : Blk w2 w.heap.size #[(.int .i64 1), (.int .i64 n)] 32 := blk_full b2 rfl
 refine go ?_
 change leaves _ _ _ _ _ _ _
 refine leaves_nil (n := 5) (rs := [.cell 2 32]) (vs := [(.agg #[(.int .i64 1), (.int .i64 n)])]) rfl ⟨⟨by decide, w.heap.size, 0, 2, [(.int .i64 1), (.int .i64 n)], rfl, tA_32.h, tS_32.h, rfl, ⟨b2.cell rfl, b2.cell rfl, trivial⟩, rfl⟩, trivial⟩ ?_
 have x1 : Ext w w2 := (Ext.chg1 e1 e2 (by omega))
 exact ⟨rfl, x1⟩
theorem smallN (n : Int) (w : World)  :
    Calls Tryz.prog 71 #[(.int .i64 n)] w (Ret (fun v w' => v = .agg #[.int .i64 3, .int .i64 n] ∧ Ext w w')) := by
 refine calls_y (n := 5) Tryz.func71 ?_
 refine go ?_
 refine y_al ?_
 intro w1 e1 z1 b1
 refine go ?_
 refine yOp (ox_mkStruct (ps := [(0, (.int .i64 3)), (1, (.int .i64 n))]) (cs := #[(.int .i64 3), (.int .i64 n)]) tZ_32.h tP_32.h rfl (by kernel_rfl) ?_)
 refine y_st b1 ?_
 intro w2 e2 z2 b2
 replace b2 : Blk w2 w.heap.size #[(.int .i64 3), (.int .i64 n)] 32 := blk_full b2 rfl
 refine go ?_
 change leaves _ _ _ _ _ _ _
 refine leaves_nil (n := 5) (rs := [.cell 2 32]) (vs := [(.agg #[(.int .i64 3), (.int .i64 n)])]) rfl ⟨⟨by decide, w.heap.size, 0, 2, [(.int .i64 3), (.int .i64 n)], rfl, tA_32.h, tS_32.h, rfl, ⟨b2.cell rfl, b2.cell rfl, trivial⟩, rfl⟩, trivial⟩ ?_
 have x1 : Ext w w2 := (Ext.chg1 e1 e2 (by omega))
 exact ⟨rfl, x1⟩
theorem small_calls  (w : World)  :
    Calls Tryz.prog 44 #[] w (Ret (fun v w' => ∃ s : SP, v = (.agg #[(.slice s.lA s.lex.length s.lc), (.slice s.nA s.names.length s.nc), (.int .i64 s.start), (.slice s.pA s.prods.length s.pc)]) ∧ SpR w' s ∧ s.g = smallG ∧ Ext w w')) := by
 refine calls_y (n := 37) Tryz.func44 ?_
 refine go ?_
 refine y_al ?_
 intro w1 e1 z1 b1
 refine go ?_
 refine yOp (ox_mkStruct (ps := [(0, (.string (⟨#[97]⟩)))]) (cs := #[(.string (⟨#[97]⟩)), (.bool false), (.int .i64 0), (.int .i64 0), (.int .i64 0), (.int .i64 0), (.int .i64 0), (.slice none 0 0)]) tZ_66.h tP_66.h rfl (by kernel_rfl) ?_)
 refine yOp (ox_mkStruct (ps := [(0, (.string (⟨#[98]⟩)))]) (cs := #[(.string (⟨#[98]⟩)), (.bool false), (.int .i64 0), (.int .i64 0), (.int .i64 0), (.int .i64 0), (.int .i64 0), (.slice none 0 0)]) tZ_66.h tP_66.h rfl (by kernel_rfl) ?_)
 refine yOp (ox_mkStruct (ps := [(0, (.string (⟨#[119]⟩))), (1, (.bool true))]) (cs := #[(.string (⟨#[119]⟩)), (.bool true), (.int .i64 0), (.int .i64 0), (.int .i64 0), (.int .i64 0), (.int .i64 0), (.slice none 0 0)]) tZ_66.h tP_66.h rfl (by kernel_rfl) ?_)
 refine yOp (ox_mkStruct (ps := [(0, (.string (⟨#[99]⟩)))]) (cs := #[(.string (⟨#[99]⟩)), (.bool false), (.int .i64 0), (.int .i64 0), (.int .i64 0), (.int .i64 0), (.int .i64 0), (.slice none 0 0)]) tZ_66.h tP_66.h rfl (by kernel_rfl) ?_)
 refine yOp (ox_mkSlice (ps := [(0, (.agg #[(.string (⟨#[97]⟩)), (.bool false), (.int .i64 0), (.int .i64 0), (.int .i64 0), (.int .i64 0), (.int .i64 0), (.slice none 0 0)])), (1, (.agg #[(.string (⟨#[98]⟩)), (.bool false), (.int .i64 0), (.int .i64 0), (.int .i64 0), (.int .i64 0), (.int .i64 0), (.slice none 0 0)])), (2, (.agg #[(.string (⟨#[119]⟩)), (.bool true), (.int .i64 0), (.int .i64 0), (.int .i64 0), (.int .i64 0), (.int .i64 0), (.slice none 0 0)])), (3, (.agg #[(.string (⟨#[99]⟩)), (.bool false), (.int .i64 0), (.int .i64 0), (.int .i64 0), (.int .i64 0), (.int .i64 0), (.slice none 0 0)]))]) (zs := #[(.string (⟨#[]⟩)), (.bool false), (.int .i64 0), (.int .i64 0), (.int .i64 0), (.int .i64 0), (.int .i64 0), (.slice none 0 0), (.string (⟨#[]⟩)), (.bool false), (.int .i64 0), (.int .i64 0), (.int .i64 0), (.int .i64 0), (.int .i64 0), (.slice none 0 0), (.string (⟨#[]⟩)), (.bool false), (.int .i64 0), (.int .i64 0), (.int .i64 0), (.int .i64 0), (.int .i64 0), (.slice none 0 0), (.string (⟨#[]⟩)), (.bool false), (.int .i64 0), (.int .i64 0), (.int .i64 0), (.int .i64 0), (.int .i64 0), (.slice none 0 0)]) (cs := #[(.string (⟨#[97]⟩)), (.bool false), (.int .i64 0), (.int .i64 0), (.int .i64 0), (.int .i64 0), (.int .i64 0), (.slice none 0 0), (.string (⟨#[98]⟩)), (.bool false), (.int .i64 0), (.int .i64 0), (.int .i64 0), (.int .i64 0), (.int .i64 0), (.slice none 0 0), (.string (⟨#[119]⟩)), (.bool true), (.int .i64 0), (.int .i64 0), (.int .i64 0), (.int .i64 0), (.int .i64 0), (.slice none 0 0), (.string (⟨#[99]⟩)), (.bool false), (.int .i64 0), (.int .i64 0), (.int .i64 0), (.int .i64 0), (.int .i64 0), (.slice none 0 0)]) tE_22.h rfl (by decide) (by kernel_rfl) (by kernel_rfl) ?_)
 intro w2 e2 z2 b2
 replace b2 : Blk w2 w1.heap.size #[(.string (⟨#[97]⟩)), (.bool false), (.int .i64 0), (.int .i64 0), (.int .i64 0), (.int .i64 0), (.int .i64 0), (.slice none 0 0), (.string (⟨#[98]⟩)), (.bool false), (.int .i64 0), (.int .i64 0), (.int .i64 0), (.int .i64 0), (.int .i64 0), (.slice none 0 0), (.string (⟨#[119]⟩)), (.bool true), (.int .i64 0), (.int .i64 0), (.int .i64 0), (.int .i64 0), (.int .i64 0), (.slice none 0 0), (.string (⟨#[99]⟩)), (.bool false), (.int .i64 0), (.int .i64 0), (.int .i64 0), (.int .i64 0), (.int .i64 0), (.slice none 0 0)] 66 := b2
 refine yOp (ox_mkSlice (ps := [(0, (.string (⟨#[83]⟩))), (1, (.string (⟨#[65]⟩))), (2, (.string (⟨#[66]⟩)))]) (zs := #[(.string (⟨#[]⟩)), (.string (⟨#[]⟩)), (.string (⟨#[]⟩))]) (cs := #[(.string (⟨#[83]⟩)), (.string (⟨#[65]⟩)), (.string (⟨#[66]⟩))]) tE_23.h rfl (by decide) (by kernel_rfl) (by kernel_rfl) ?_)
 intro w3 e3 z3 b3
 replace b3 : Blk w3 w2.heap.size #[(.string (⟨#[83]⟩)), (.string (⟨#[65]⟩)), (.string (⟨#[66]⟩))] 9 := b3
 refine go ?_
 refine yOp (ox_callV (cap := []) (al := [(.int .i64 1)]) pf_71.h rfl rfl (ret_mono (smallN 1 w3) ?_))
 rintro _ w4 ⟨rfl, e4⟩
 have he4 := e4.size
 refine go ?_
 refine yOp (ox_callV (cap := []) (al := [(.int .i64 2)]) pf_71.h rfl rfl (ret_mono (smallN 2 w4) ?_))
 rintro _ w5 ⟨rfl, e5⟩
 have he5 := e5.size
 refine go ?_
 refine yOp (ox_callV (cap := []) (al := [(.int .i64 3)]) pf_70.h rfl rfl (ret_mono (smallT 3 w5) ?_))
 rintro _ w6 ⟨rfl, e6⟩
 have he6 := e6.size
 refine yOp (ox_mkSlice (ps := [(0, (.agg #[(.int .i64 3), (.int .i64 1)])), (1, (.agg #[(.int .i64 3), (.int .i64 2)])), (2, (.agg #[(.int .i64 1), (.int .i64 3)]))]) (zs := #[(.int .i64 0), (.int .i64 0), (.int .i64 0), (.int .i64 0), (.int .i64 0), (.int .i64 0)]) (cs := #[(.int .i64 3), (.int .i64 1), (.int .i64 3), (.int .i64 2), (.int .i64 1), (.int .i64 3)]) tE_33.h rfl (by decide) (by kernel_rfl) (by kernel_rfl) ?_)
 intro w7 e7 z4 b4
 replace b4 : Blk w7 w6.heap.size #[(.int .i64 3), (.int .i64 1), (.int .i64 3), (.int .i64 2), (.int .i64 1), (.int .i64 3)] 32 := b4
 refine yOp (ox_mkStruct (ps := [(0, (.int .i64 0)), (1, (.slice (some ⟨w6.heap.size, 0, none⟩) 3 3))]) (cs := #[(.int .i64 0), (.slice (some ⟨w6.heap.size, 0, none⟩) 3 3)]) tZ_37.h tP_37.h rfl (by kernel_rfl) ?_)
 refine yOp (ox_mkStruct (ps := [(0, (.int .i64 2))]) (cs := #[(.int .i64 2), (.int .i64 0)]) tZ_32.h tP_32.h rfl (by kernel_rfl) ?_)
 refine yOp (ox_mkSlice (ps := [(0, (.agg #[(.int .i64 2), (.int .i64 0)]))]) (zs := #[(.int .i64 0), (.int .i64 0)]) (cs := #[(.int .i64 2), (.int .i64 0)]) tE_33.h rfl (by decide) (by kernel_rfl) (by kernel_rfl) ?_)
 intro w8 e8 z5 b5
 replace b5 : Blk w8 w7.heap.size #[(.int .i64 2), (.int .i64 0)] 32 := b5
 refine yOp (ox_mkStruct (ps := [(0, (.int .i64 0)), (1, (.slice (some ⟨w7.heap.size, 0, none⟩) 1 1))]) (cs := #[(.int .i64 0), (.slice (some ⟨w7.heap.size, 0, none⟩) 1 1)]) tZ_37.h tP_37.h rfl (by kernel_rfl) ?_)
 refine go ?_
 refine yOp (ox_callV (cap := []) (al := [(.int .i64 0)]) pf_70.h rfl rfl (ret_mono (smallT 0 w8) ?_))
 rintro _ w9 ⟨rfl, e9⟩
 have he9 := e9.size
 refine go ?_
 refine yOp (ox_callV (cap := []) (al := [(.int .i64 1)]) pf_71.h rfl rfl (ret_mono (smallN 1 w9) ?_))
 rintro _ w10 ⟨rfl, e10⟩
 have he10 := e10.size
 refine yOp (ox_mkSlice (ps := [(0, (.agg #[(.int .i64 1), (.int .i64 0)])), (1, (.agg #[(.int .i64 3), (.int .i64 1)]))]) (zs := #[(.int .i64 0), (.int .i64 0), (.int .i64 0), (.int .i64 0)]) (cs := #[(.int .i64 1), (.int .i64 0), (.int .i64 3), (.int .i64 1)]) tE_33.h rfl (by decide) (by kernel_rfl) (by kernel_rfl) ?_)
 intro w11 e11 z6 b6
 replace b6 : Blk w11 w10.heap.size #[(.int .i64 1), (.int .i64 0), (.int .i64 3), (.int .i64 1)] 32 := b6
 refine yOp (ox_mkStruct (ps := [(0, (.int .i64 1)), (1, (.slice (some ⟨w10.heap.size, 0, none⟩) 2 2))]) (cs := #[(.int .i64 1), (.slice (some ⟨w10.heap.size, 0, none⟩) 2 2)]) tZ_37.h tP_37.h rfl (by kernel_rfl) ?_)
 refine yOp (ox_mkStruct (ps := [(0, (.int .i64 1))]) (cs := #[(.int .i64 1), (.slice none 0 0)]) tZ_37.h tP_37.h rfl (by kernel_rfl) ?_)
 refine go ?_
 refine yOp (ox_callV (cap := []) (al := [(.int .i64 1)]) pf_70.h rfl rfl (ret_mono (smallT 1 w11) ?_))
 rintro _ w12 ⟨rfl, e12⟩
 have he12 := e12.size
 refine yOp (ox_mkSlice (ps := [(0, (.agg #[(.int .i64 1), (.int .i64 1)]))]) (zs := #[(.int .i64 0), (.int .i64 0)]) (cs := #[(.int .i64 1), (.int .i64 1)]) tE_33.h rfl (by decide) (by kernel_rfl) (by kernel_rfl) ?_)
 intro w13 e13 z7 b7
 replace b7 : Blk w13 w12.heap.size #[(.int .i64 1), (.int .i64 1)] 32 := b7
 refine yOp (ox_mkStruct (ps := [(0, (.int .i64 2)), (1, (.slice (some ⟨w12.heap.size, 0, none⟩) 1 1))]) (cs := #[(.int .i64 2), (.slice (some ⟨w12.heap.size, 0, none⟩) 1 1)]) tZ_37.h tP_37.h rfl (by kernel_rfl) ?_)
 refine go ?_
 refine yOp (ox_callV (cap := []) (al := [(.int .i64 1)]) pf_71.h rfl rfl (ret_mono (smallN 1 w13) ?_))
 rintro _ w14 ⟨rfl, e14⟩
 have he14 := e14.size
 refine yOp (ox_mkSlice (ps := [(0, (.agg #[(.int .i64 3), (.int .i64 1)]))]) (zs := #[(.int .i64 0), (.int .i64 0)]) (cs := #[(.int .i64 3), (.int .i64 1)]) tE_33.h rfl (by decide) (by kernel_rfl) (by kernel_rfl) ?_)
 intro w15 e15 z8 b8
 replace b8 : Blk w15 w14.heap.size #[(.int .i64 3), (.int .i64 1)] 32 := b8
 refine yOp (ox_mkStruct (ps := [(0, (.int .i64 2)), (1, (.slice (some ⟨w14.heap.size, 0, none⟩) 1 1))]) (cs := #[(.int .i64 2), (.slice (some ⟨w14.heap.size, 0, none⟩) 1 1)]) tZ_37.h tP_37.h rfl (by kernel_rfl) ?_)
 refine yOp (ox_mkSlice (ps := [(0, (.agg #[(.int .i64 0), (.slice (some ⟨w6.heap.size, 0, none⟩) 3 3)])), (1, (.agg #[(.int .i64 0), (.slice (some ⟨w7.heap.size, 0, none⟩) 1 1)])), (2, (.agg #[(.int .i64 1), (.slice (some ⟨w10.heap.size, 0, none⟩) 2 2)])), (3, (.agg #[(.int .i64 1), (.slice none 0 0)])), (4, (.agg #[(.int .i64 2), (.slice (some ⟨w12.heap.size, 0, none⟩) 1 1)])), (5, (.agg #[(.int .i64 2), (.slice (some ⟨w14.heap.size, 0, none⟩) 1 1)]))]) (zs := #[(.int .i64 0), (.slice none 0 0), (.int .i64 0), (.slice none 0 0), (.int .i64 0), (.slice none 0 0), (.int .i64 0), (.slice none 0 0), (.int .i64 0), (.slice none 0 0), (.int .i64 0), (.slice none 0 0)]) (cs := #[(.int .i64 0), (.slice (some ⟨w6.heap.size, 0, none⟩) 3 3), (.int .i64 0), (.slice (some ⟨w7.heap.size, 0, none⟩) 1 1), (.int .i64 1), (.slice (some ⟨w10.heap.size, 0, none⟩) 2 2), (.int .i64 1), (.slice none 0 0), (.int .i64 2), (.slice (some ⟨w12.heap.size, 0, none⟩) 1 1), (.int .i64 2), (.slice (some ⟨w14.heap.size, 0, none⟩) 1 1)]) tE_24.h rfl (by decide) (by kernel_rfl) (by kernel_rfl) ?_)
 intro w16 e16 z9 b9
 replace b9 : Blk w16 w15.heap.size #[(.int .i64 0), (.slice (some ⟨w6.heap.size, 0, none⟩) 3 3), (.int .i64 0), (.slice (some ⟨w7.heap.size, 0, none⟩) 1 1), (.int .i64 1), (.slice (some ⟨w10.heap.size, 0, none⟩) 2 2), (.int .i64 1), (.slice none 0 0), (.int .i64 2), (.slice (some ⟨w12.heap.size, 0, none⟩) 1 1), (.int .i64 2), (.slice (some ⟨w14.heap.size, 0, none⟩) 1 1)] 37 := b9
 refine yOp (ox_mkStruct (ps := [(0, (.slice (some ⟨w1.heap.size, 0, none⟩) 4 4)), (1, (.slice (some ⟨w2.heap.size, 0, none⟩) 3 3)), (3, (.slice (some ⟨w15.heap.size, 0, none⟩) 6 6))]) (cs := #[(.slice (some ⟨w1.heap.size, 0, none⟩) 4 4), (.slice (some ⟨w2.heap.size, 0, none⟩) 3 3), (.int .i64 0), (.slice (some ⟨w15.heap.size, 0, none⟩) 6 6)]) tZ_26.h tP_26.h rfl (by kernel_rfl) ?_)
 have q1 := (((((b1.ext e2).ext e3).ext e4).ext e5).ext e6)
 have q2 := (((((q1.ext e7).ext e8).ext e9).ext e10).ext e11)
 have q3 := ((((q2.ext e12).ext e13).ext e14).ext e15)
 refine y_st (q3.ext e16) ?_
 intro w17 e17 z10 b10
 replace b10 : Blk w17 w.heap.size #[(.slice (some ⟨w1.heap.size, 0, none⟩) 4 4), (.slice (some ⟨w2.heap.size, 0, none⟩) 3 3), (.int .i64 0), (.slice (some ⟨w15.heap.size, 0, none⟩) 6 6)] 26 := blk_full b10 rfl
 refine go ?_
 change leaves _ _ _ _ _ _ _
 refine leaves_nil (n := 37) (rs := [.cell 0 26]) (vs := [(.agg #[(.slice (some ⟨w1.heap.size, 0, none⟩) 4 4), (.slice (some ⟨w2.heap.size, 0, none⟩) 3 3), (.int .i64 0), (.slice (some ⟨w15.heap.size, 0, none⟩) 6 6)])]) rfl ⟨⟨by decide, w.heap.size, 0, 4, [(.slice (some ⟨w1.heap.size, 0, none⟩) 4 4), (.slice (some ⟨w2.heap.size, 0, none⟩) 3 3), (.int .i64 0), (.slice (some ⟨w15.heap.size, 0, none⟩) 6 6)], rfl, tA_26.h, tS_26.h, rfl, ⟨b10.cell rfl, b10.cell rfl, b10.cell rfl, b10.cell rfl, trivial⟩, rfl⟩, trivial⟩ ?_
 have q4 := (((((b4.ext e8).ext e9).ext e10).ext e11).ext e12)
 have q5 := ((((q4.ext e13).ext e14).ext e15).ext e16)
 have q6 := (q5.keep1 e17 (q5.ne (q3.ext e16) (by decide)))
 have q7 := ((((b5.ext e9).ext e10).ext e11).ext e12)
 have q8 := ((((q7.ext e13).ext e14).ext e15).ext e16)
 have q9 := (q8.keep1 e17 (q8.ne (q3.ext e16) (by decide)))
 have q10 := ((((b6.ext e12).ext e13).ext e14).ext e15)
 have q11 := ((q10.ext e16).keep1 e17 ((q10.ext e16).ne (q3.ext e16) (by decide)))
 have q12 := ((((b7.ext e14).ext e15).ext e16).keep1 e17 ((((b7.ext e14).ext e15).ext e16).ne (q3.ext e16) (by decide)))
 have q13 := ((b8.ext e16).keep1 e17 ((b8.ext e16).ne (q3.ext e16) (by decide)))
 have q14 := (((((b2.ext e3).ext e4).ext e5).ext e6).ext e7)
 have q15 := ((((q14.ext e8).ext e9).ext e10).ext e11)
 have q16 := ((((q15.ext e12).ext e13).ext e14).ext e15)
 have q17 := ((q16.ext e16).keep1 e17 ((q16.ext e16).ne (q3.ext e16) (by decide)))
 have q18 := (((((b3.ext e4).ext e5).ext e6).ext e7).ext e8)
 have q19 := ((((q18.ext e9).ext e10).ext e11).ext e12)
 have q20 := ((((q19.ext e13).ext e14).ext e15).ext e16)
 have q21 := (q20.keep1 e17 (q20.ne (q3.ext e16) (by decide)))
 have q22 := (b9.keep1 e17 (b9.ne (q3.ext e16) (by decide)))
 have hrow : ∀ y ∈ ([⟨0, some ⟨w6.heap.size, 0, none⟩, 3, [⟨3, 1⟩, ⟨3, 2⟩, ⟨1, 3⟩]⟩, ⟨0, some ⟨w7.heap.size, 0, none⟩, 1, [⟨2, 0⟩]⟩, ⟨1, some ⟨w10.heap.size, 0, none⟩, 2, [⟨1, 0⟩, ⟨3, 1⟩]⟩, ⟨1, none, 0, []⟩, ⟨2, some ⟨w12.heap.size, 0, none⟩, 1, [⟨1, 1⟩]⟩, ⟨2, some ⟨w14.heap.size, 0, none⟩, 1, [⟨3, 1⟩]⟩] : List PD), RowA w17 y.rA (y.right.flatMap Sym.cs) ∧ few 16 y.right.length y.rc := by
   intro y hy
   simp only [List.mem_cons, List.not_mem_nil, or_false] at hy
   rcases hy with rfl | rfl | rfl | rfl | rfl | rfl
   · exact ⟨⟨fun _ => rfl, q6.cell rfl, q6.cell rfl, q6.cell rfl, q6.cell rfl, q6.cell rfl, q6.cell rfl, trivial⟩, (by show 3 ≤ 3; decide), (by show 3 * 16 ≤ 140737488355328; decide)⟩
   · exact ⟨⟨fun _ => rfl, q9.cell rfl, q9.cell rfl, trivial⟩, (by show 1 ≤ 1; decide), (by show 1 * 16 ≤ 140737488355328; decide)⟩
   · exact ⟨⟨fun _ => rfl, q11.cell rfl, q11.cell rfl, q11.cell rfl, q11.cell rfl, trivial⟩, (by show 2 ≤ 2; decide), (by show 2 * 16 ≤ 140737488355328; decide)⟩
   · exact ⟨rfl, (by show 0 ≤ 0; decide), (by show 0 * 16 ≤ 140737488355328; decide)⟩
   · exact ⟨⟨fun _ => rfl, q12.cell rfl, q12.cell rfl, trivial⟩, (by show 1 ≤ 1; decide), (by show 1 * 16 ≤ 140737488355328; decide)⟩
   · exact ⟨⟨fun _ => rfl, q13.cell rfl, q13.cell rfl, trivial⟩, (by show 1 ≤ 1; decide), (by show 1 * 16 ≤ 140737488355328; decide)⟩
 have x1 : Ext w w17 := (Ext.chg1 (Ext.trans (Ext.trans (Ext.trans (Ext.trans (Ext.trans (Ext.trans (Ext.trans (Ext.trans (Ext.trans (Ext.trans (Ext.trans (Ext.trans (Ext.trans (Ext.trans (Ext.trans e1 e2) e3) e4) e5) e6) e7) e8) e9) e10) e11) e12) e13) e14) e15) e16) e17 (by omega))
 refine ⟨⟨some ⟨w1.heap.size, 0, none⟩, 4, [⟨⟨#[97]⟩, false, exZero⟩, ⟨⟨#[98]⟩, false, exZero⟩, ⟨⟨#[119]⟩, true, exZero⟩, ⟨⟨#[99]⟩, false, exZero⟩], some ⟨w2.heap.size, 0, none⟩, 3, [⟨#[83]⟩, ⟨#[65]⟩, ⟨#[66]⟩], 0, some ⟨w15.heap.size, 0, none⟩, 6, [⟨0, some ⟨w6.heap.size, 0, none⟩, 3, [⟨3, 1⟩, ⟨3, 2⟩, ⟨1, 3⟩]⟩, ⟨0, some ⟨w7.heap.size, 0, none⟩, 1, [⟨2, 0⟩]⟩, ⟨1, some ⟨w10.heap.size, 0, none⟩, 2, [⟨1, 0⟩, ⟨3, 1⟩]⟩, ⟨1, none, 0, []⟩, ⟨2, some ⟨w12.heap.size, 0, none⟩, 1, [⟨1, 1⟩]⟩, ⟨2, some ⟨w14.heap.size, 0, none⟩, 1, [⟨3, 1⟩]⟩]⟩, rfl, ⟨⟨fun _ => rfl, q17.cell rfl, q17.cell rfl, q17.cell rfl, q17.cell rfl, q17.cell rfl, q17.cell rfl, q17.cell rfl, q17.cell rfl, q17.cell rfl, q17.cell rfl, q17.cell rfl, q17.cell rfl, q17.cell rfl, q17.cell rfl, q17.cell rfl, q17.cell rfl, q17.cell rfl, q17.cell rfl, q17.cell rfl, q17.cell rfl, q17.cell rfl, q17.cell rfl, q17.cell rfl, q17.cell rfl, q17.cell rfl, q17.cell rfl, q17.cell rfl, q17.cell rfl, q17.cell rfl, q17.cell rfl, q17.cell rfl, q17.cell rfl, trivial⟩, ⟨fun _ => rfl, q21.cell rfl, q21.cell rfl, q21.cell rfl, trivial⟩, ⟨fun _ => rfl, q22.cell rfl, q22.cell rfl, q22.cell rfl, q22.cell rfl, q22.cell rfl, q22.cell rfl, q22.cell rfl, q22.cell rfl, q22.cell rfl, q22.cell rfl, q22.cell rfl, q22.cell rfl, trivial⟩, fun y hy => ?_, fun y hy => (hrow y hy).1, ⟨by show 4 ≤ 4; decide, by show 4 * 88 ≤ 140737488355328; decide⟩, ⟨by show 3 ≤ 3; decide, by show 3 * 16 ≤ 140737488355328; decide⟩, ⟨by show 6 ≤ 6; decide, by show 6 * 32 ≤ 140737488355328; decide⟩, fun y hy => (hrow y hy).2⟩, rfl, x1⟩
 simp only [List.mem_cons, List.not_mem_nil, or_false] at hy
 rcases hy with rfl | rfl | rfl | rfl <;> exact ⟨rfl, ⟨by decide, by decide⟩, trivial⟩
theorem row_name {α : Type} {P : Program} {f : FuncId} {as_ : Array Value} {w : World} {e sz : Nat} {cs : α → List Value} {L : List α} (h : Calls P f as_ w (Ret fun v w' => ∃ A c, v = .slice A L.length c ∧ NewRow w w' e sz cs L A c ∧ Ext w w')) : Calls P f as_ w (Ret fun v w' => ∃ l, l = L ∧ ∃ A c, v = .slice A l.length c ∧ NewRow w w' e sz cs l A c ∧ Ext w w') :=
  ret_mono h fun v w' ⟨A, c, h1, h2, h3⟩ => ⟨L, rfl, A, c, h1, h2, h3⟩
theorem RowA.blk {w : World} {b t : Nat} {cs : Array Value} {vs : List Value} (h : Blk w b cs t) (hv : cs.toList = vs) : RowA w (some ⟨b, 0, none⟩) vs := by
  subst hv
  exact ⟨fun _ => rfl, h.all⟩
theorem small_builtG : builtG smallG = some smallA := by
  unfold builtG
  rw [if_pos (by rw [small_check]), small_built]
theorem build_calls2 (s : SP) (w : World) (hS : SpR w s) (hT : TabP w) : Calls Tryz.prog 34 #[(.agg #[(.slice s.lA s.lex.length s.lc), (.slice s.nA s.names.length s.nc), (.int .i64 s.start), (.slice s.pA s.prods.length s.pc)])] w (Ret fun v w' => ∃ (p : Option Addr) (k a : Int), v = .tuple #[.pointer p, .agg #[.int .i64 k, .int .i64 a, .string ⟨#[]⟩]] ∧ Ext w w' ∧ ((k ≠ 0 ∧ p = none ∧ builtG s.g = none) ∨ (k = 0 ∧ a = 0 ∧ ∃ ba st, p = some ⟨ba, 0, none⟩ ∧ builtG s.g = some st ∧ AutX w.heap.size w' s ba st))) := by
  refine ret_mono (build_calls s w hS hT) ?_
  rintro v w' ⟨he, ⟨h1, rfl⟩ | ⟨h1, h2, rfl⟩ | ⟨h1, s2, ba, sA, sc, sts, h2, h3, h4, rfl⟩⟩
  · exact ⟨_, _, _, rfl, he, .inl ⟨h1, rfl, by unfold builtG; rw [if_neg h1]⟩⟩
  · exact ⟨_, _, _, rfl, he, .inl ⟨by decide, rfl, by unfold builtG; rw [if_pos h1, h2]⟩⟩
  · exact ⟨_, _, _, rfl, he, .inr ⟨rfl, rfl, ba, _, rfl, by unfold builtG; rw [if_pos h1, h2], ⟨⟨s2, sA, sc, sts, rfl, h3, h4⟩, Aut.of h1 h2⟩⟩⟩
theorem fS_75 : flatS Tryz.prog 75 [.int .i64, .int .i64, .str] = true := by kernel_rfl
instance pf_13 : PlF Tryz.prog 13 := ⟨by kernel_rfl⟩
instance pf_23 : PlF Tryz.prog 23 := ⟨by kernel_rfl⟩
instance pf_24 : PlF Tryz.prog 24 := ⟨by kernel_rfl⟩
instance pf_26 : PlF Tryz.prog 26 := ⟨by kernel_rfl⟩
instance pf_30 : PlF Tryz.prog 30 := ⟨by kernel_rfl⟩
instance pf_31 : PlF Tryz.prog 31 := ⟨by kernel_rfl⟩
instance pf_34 : PlF Tryz.prog 34 := ⟨by kernel_rfl⟩
instance pf_44 : PlF Tryz.prog 44 := ⟨by kernel_rfl⟩
instance tU_28 : UnP Tryz.prog 28 97 := ⟨by kernel_rfl⟩
theorem tU_68 : Tryz.prog.underlying 68 = some (.func #[106] #[] false) := by kernel_rfl
theorem all_calls (ba : Nat) (w : World)  :
    Calls Tryz.prog 31 #[(.pointer (some ⟨ba, 0, none⟩))] w (Ret (fun v w' => ∃ b, v = .func (.func 54) #[] #[.pointer (some ⟨b, 0, none⟩)] ∧ Blk w' b #[.pointer (some ⟨ba, 0, none⟩)] 28 ∧ b = w.heap.size ∧ Ext w w')) := by
 refine calls_y (n := 4) Tryz.func31 ?_
 refine go ?_
 refine y_bx ?_
 intro w1 e1 z1 b1
 refine go ?_
 refine yOp (ox_mkFunc (cs := [(.pointer (some ⟨w.heap.size, 0, none⟩))]) rfl ?_)
 refine go ?_
 refine y_r1 ?_
 exact ⟨_, rfl, b1, rfl, e1⟩
theorem known_calls  (w : World) (hT : TabP w) :
    Calls Tryz.prog 10 #[] w (Ret (fun v w' => v = .bool true ∧ Ext w w')) := by
 obtain ⟨⟨hf1, hf2, hf3, hf4⟩, hf5⟩ := small_facts
 refine calls_y (n := 53) Tryz.func10 ?_
 refine go ?_
 refine yCa (ret_mono (small_calls w) ?_)
 rintro _ w1 ⟨sm, rfl, hSm, hsg, e1⟩
 have he1 := e1.size
 refine yCa (ret_mono (build_calls2 sm w1 hSm (TabIs.ext hT e1)) ?_)
 rintro _ w2 ⟨p1, k1, a1, rfl, e2, hb1⟩
 have he2 := e2.size
 have hk9 : ¬ k1 ≠ 0 := fun h9 => by
   obtain ⟨_, _, h8⟩ := hb1.resolve_right (fun ⟨h7, _⟩ => h9 h7)
   rw [hsg, small_builtG] at h8; cases h8
 obtain ⟨rfl, rfl, bax_1, stx_1, rfl, hgx_1, hXx_1⟩ := hb1.resolve_left (fun h9 => by omega)
 have hst9 : stx_1 = smallA := by have h9 := hgx_1; rw [hsg, small_builtG] at h9; exact (Option.some.inj h9).symm
 subst hst9
 refine go ?_
 refine y_al ?_
 intro w3 e3 z1 b1
 refine go ?_
 refine y_st b1 ?_
 intro w4 e4 z2 b2
 replace b2 : Blk w4 w2.heap.size #[(.int .i64 0), (.int .i64 0), (.string (⟨#[]⟩))] 75 := blk_full b2 rfl
 refine go ?_
 refine y_lN (vs := [(.int .i64 0), (.int .i64 0), (.string (⟨#[]⟩))]) ⟨b2.cell rfl, b2.cell rfl, b2.cell rfl, trivial⟩ ?_
 refine yOp (ox_mkStruct (ps := []) (cs := #[(.int .i64 0), (.int .i64 0), (.string (⟨#[]⟩))]) tZ_75.h tP_75.h rfl (by kernel_rfl) ?_)
 refine yOp (ox_neqF (xs := [(.int .i64 0), (.int .i64 0), (.string (⟨#[]⟩))]) (ys := [(.int .i64 0), (.int .i64 0), (.string (⟨#[]⟩))]) (p := ((0 : Int) = 0 ∧ (0 : Int) = 0 ∧ (⟨#[]⟩ : ByteArray) = (⟨#[]⟩))) fS_75 rfl rfl rfl rfl (by simp) ?_)
 refine go ?_
 refine ysL (s := 12) (bF (by simp : (!decide (((0 : Int) = 0 ∧ (0 : Int) = 0 ∧ (⟨#[]⟩ : ByteArray) = (⟨#[]⟩)))) = false)) ?_
 refine go ?_
 refine yOp (ox_eqlNil (p := (some ⟨bax_1, 0, none⟩ : Option Addr)) (q := none) tU_28.h rfl rfl (.inr rfl) ?_)
 refine go ?_
 refine ysL (s := 16) (bF (decide_eq_false (by simp))) ?_
 refine go ?_
 refine yCa (ret_mono (all_calls bax_1 w4) ?_)
 rintro _ w5 ⟨b3, rfl, hb2, _, e5⟩
 have he5 := e5.size
 have hhb29 := hb2.lt
 refine yOp (ox_eqlFnil tU_68 rfl rfl ?_)
 refine go ?_
 refine yOp (ox_mkStruct (ps := [(0, (.int .i64 3)), (1, (.int .i64 1))]) (cs := #[(.int .i64 3), (.int .i64 1)]) tZ_32.h tP_32.h rfl (by kernel_rfl) ?_)
 refine yOp (ox_mkSlice (ps := [(0, (.agg #[(.int .i64 3), (.int .i64 1)]))]) (zs := #[(.int .i64 0), (.int .i64 0)]) (cs := #[(.int .i64 3), (.int .i64 1)]) tE_33.h rfl (by decide) (by kernel_rfl) (by kernel_rfl) ?_)
 intro w6 e6 z3 b4
 replace b4 : Blk w6 w5.heap.size #[(.int .i64 3), (.int .i64 1)] 32 := b4
 have x1 : Ext w2 w6 := (Ext.trans (Ext.trans (Ext.chg1 e3 e4 (by omega)) e5) e6)
 refine yCa (ret_mono (autx_run (AutX.ext hXx_1 x1) ([(⟨3, 1⟩ : Sym)]) ((some ⟨w5.heap.size, 0, none⟩)) 1 (RowA.blk b4 rfl) (by decide)) ?_)
 rintro _ w7 ⟨rfl, e7⟩
 have he7 := e7.size
 refine go ?_
 refine yCa (ret_mono (autx_len (AutX.ext (AutX.ext hXx_1 x1) e7)) ?_)
 rintro _ w8 ⟨rfl, e8⟩
 have he8 := e8.size
 refine go ?_
 refine ysL (s := 28) (bT (decide_eq_true (by omega))) ?_
 refine go ?_
 refine ysL (s := 32) (bT (decide_eq_true (by omega))) ?_
 refine go ?_
 refine yOp (ox_mkStruct (ps := [(0, (.int .i64 1)), (1, (.int .i64 3))]) (cs := #[(.int .i64 1), (.int .i64 3)]) tZ_32.h tP_32.h rfl (by kernel_rfl) ?_)
 refine yOp (ox_mkSlice (ps := [(0, (.agg #[(.int .i64 1), (.int .i64 3)]))]) (zs := #[(.int .i64 0), (.int .i64 0)]) (cs := #[(.int .i64 1), (.int .i64 3)]) tE_33.h rfl (by decide) (by kernel_rfl) (by kernel_rfl) ?_)
 intro w9 e9 z4 b5
 replace b5 : Blk w9 w8.heap.size #[(.int .i64 1), (.int .i64 3)] 32 := b5
 have x2 : Ext w7 w9 := (Ext.trans e8 e9)
 refine yCa (ret_mono (autx_run (AutX.ext (AutX.ext (AutX.ext hXx_1 x1) e7) x2) ([(⟨1, 3⟩ : Sym)]) ((some ⟨w8.heap.size, 0, none⟩)) 1 (RowA.blk b5 rfl) (by decide)) ?_)
 rintro _ w10 ⟨rfl, e10⟩
 have he10 := e10.size
 refine go ?_
 refine ysL (s := 39) (bT (decide_eq_true (by omega))) ?_
 have q1 := (AutX.ext (AutX.ext (AutX.ext (AutX.ext hXx_1 x1) e7) x2) e10)
 refine go ?_
 refine yCa (ret_mono (autx_kern q1 0) ?_)
 rintro _ w11 ⟨A1, c1, rfl, hn1, e11⟩
 have he11 := e11.size
 refine yOp (ox_mkStruct (ps := [(0, (.int .i64 (-1)))]) (cs := #[(.int .i64 (-1)), (.int .i64 0)]) tZ_42.h tP_42.h rfl (by kernel_rfl) ?_)
 refine yOp (ox_mkSlice (ps := [(0, (.agg #[(.int .i64 (-1)), (.int .i64 0)]))]) (zs := #[(.int .i64 0), (.int .i64 0)]) (cs := #[(.int .i64 (-1)), (.int .i64 0)]) tE_39.h rfl (by decide) (by kernel_rfl) (by kernel_rfl) ?_)
 intro w12 e12 z5 b6
 replace b6 : Blk w12 w11.heap.size #[(.int .i64 (-1)), (.int .i64 0)] 42 := b6
 refine yCa (ret_mono (sameItems_calls (kernS smallA 0) ([(⟨-1, 0⟩ : Itm)]) A1 ((some ⟨w11.heap.size, 0, none⟩)) c1 1 w12 (Own.rowO (hn1.1.ext e12)) (RowA.blk b6 rfl) (by rw [hf4]; decide)) ?_)
 rintro _ w13 ⟨rfl, e13⟩
 have he13 := e13.size
 refine go ?_
 refine ysL (s := 46) (bT (decide_eq_true hf4)) ?_
 have x3 : Ext w10 w13 := (Ext.trans (Ext.trans e11 e12) e13)
 refine go ?_
 refine yCa (ret_mono (autx_path (AutX.ext q1 x3) (runS smallA 0 ([(⟨3, 1⟩ : Sym)]))) ?_)
 rintro _ w14 ⟨A2, c2, rfl, hn2, e14⟩
 have he14 := e14.size
 refine go ?_
 refine y_r1 ?_
 have x4 : Ext w w14 := (Ext.trans (Ext.trans (Ext.trans (Ext.trans (Ext.trans (Ext.trans (Ext.trans (Ext.trans (Ext.trans (Ext.trans (Ext.chg1 (Ext.trans (Ext.trans e1 e2) e3) e4 (by omega)) e5) e6) e7) e8) e9) e10) e11) e12) e13) e14)
 exact ⟨congrArg Value.bool (decide_eq_true (by omega)), x4⟩
instance pf_18 : PlF Tryz.prog 18 := ⟨by kernel_rfl⟩
theorem termsG_len : ∀ (l : List Bool) (i : Nat), (termsG l i).length ≤ l.length
  | [], _ => Nat.le_refl _
  | b :: r, i => by
    have := termsG_len r (i + 1)
    rw [termsG, List.length_append, List.length_cons]
    split
    · simp only [List.length_nil]; omega
    · simp only [List.length_singleton]; omega
theorem symbolsG_len (g : GD) : (symbolsG g).length ≤ g.triv.length + 1 + g.names := by
  have := termsG_len g.triv 0
  unfold symbolsG namesL
  simp only [List.length_append, List.length_map, List.length_range, List.length_singleton]
  omega
theorem path_le {g : GD} {st : List ASt} (h : Aut g st) : ∀ (k : Nat) (x : ASt), st[k]? = some x → (pathS st (k : Nat)).length ≤ k := by
  intro k
  induction k using Nat.strongRecOn with
  | ind k ih =>
    intro x hx
    by_cases hk : k = 0
    · subst hk
      have := path_zero h
      rw [show ((0 : Nat) : Int) = 0 from rfl, this]; exact Nat.le_refl _
    · obtain ⟨m, y, e1, e2, e3, _⟩ := h.frm k x hx hk
      have := ih m e2 y e3
      rw [path_len h hx hk e1 e2 e3]; omega
instance pf_10 : PlF Tryz.prog 10 := ⟨by kernel_rfl⟩
instance pf_15 : PlF Tryz.prog 15 := ⟨by kernel_rfl⟩
instance pf_22 : PlF Tryz.prog 22 := ⟨by kernel_rfl⟩
instance pf_29 : PlF Tryz.prog 29 := ⟨by kernel_rfl⟩
end Go.Proofs.YtnnmdkglgnlenaaGreatDoor
